/- Own work, printed by a program of this claim: walks through functions of the program. -/
import Derived.Test.YtppbepekbanljaaW1
import Derived.Test.YtppbepekbanljaaProg
import Derived.KernelRfl
set_option linter.unusedSimpArgs false
set_option linter.unusedVariables false
namespace Go.Proofs.Ytppbepekbanljaa
open Go.Sk Go.RowKit
attribute [local simp] AV.inSL AV.inS inSL_I Blk.inS Blk.cs AV.novs AV.novsL novsL_I AV.ren AV.cells AV.one lk tuAV
theorem bytes_3 : (Try.prog.info? 3).map (·.bytes) = some 8 := by kernel_rfl
theorem cells_3 : Try.prog.cellsOf 3 = 1 := by kernel_rfl
theorem idx_52 : idx Try.prog 52 = some (none, 1) := by kernel_rfl
theorem shp_3 : shp Try.prog 3 = some (false, 1) := by kernel_rfl
theorem zero_3 : zeroAV Try.prog 3 = some [.i .i64 0] := by kernel_rfl

set_option maxRecDepth 20000 in
set_option maxHeartbeats 4000000 in
theorem rword_c (n : Int) (hn : 0 ≤ n) : FnC Try.prog 26 [] [.i .i64 n] [] [] (.i .i64 (n % 4294967296)) := by
  refine FnC.introR (N0 := 0) (T := 5) (E := [(0, .i .i64 n)]) Try.func26 rfl (by decide) mix rfl rfl rfl (by simp) rfl ⟨(by first | exact inSL_I _ | trivial | simp), trivial⟩ (by simp) (by intro S _ _ h; simp) (fun F n0 X w ρ hC hro => ?_)
  refine W_seq ?_
  refine W_region ?_
  refine WL_cons hC.fn (.plain rfl (oc_assign hC .cint rfl rfl)) ?_
  refine WL_nil ?_
  refine W_seq ?_
  refine W_region ?_
  refine WL_cons hC.fn (.plain rfl (oc_move hC (.tmp rfl) rfl rfl)) ?_
  refine WL_cons hC.fn (.plain rfl (oc_div hC (.inr rfl) (.tmp rfl) .cint (by first | decide | omega) (by first | exact rem_nn (by omega) | rfl) rfl rfl)) ?_
  refine WL_cons hC.fn (.plain rfl (oc_assign hC (.tmp rfl) rfl rfl)) ?_
  refine WL_nil ?_
  refine W_ret ?_
  exact fin0 (.cons (.tmp rfl) .nil) (by first | rfl | (simp <;> fail)) (by first | exact inSL_I _ | simp)
set_option maxRecDepth 20000 in
set_option maxHeartbeats 4000000 in
theorem rturn_c (x n : Int) (m : Nat) (hm : n = m) (hx : 0 ≤ x ∧ x < 4294967296) (hn : m ≤ 31) : FnC Try.prog 48 [] [.i .i64 x, .i .i64 n] [] [] (.i .i64 (rol x m)) := by
  refine FnC.introR (N0 := 0) (T := 18) (E := [(0, .i .i64 x), (1, .i .i64 n)]) Try.func48 rfl (by decide) mix rfl rfl rfl (by simp) rfl ⟨(by first | exact inSL_I _ | trivial | simp), (by first | exact inSL_I _ | trivial | simp), trivial⟩ (by simp) (by intro S _ _ h; simp) (fun F n0 X w ρ hC hro => ?_)
  refine W_seq ?_
  refine W_region ?_
  refine WL_cons hC.fn (.plain rfl (oc_assign hC .cint rfl rfl)) ?_
  refine WL_nil ?_
  refine W_seq ?_
  refine W_seq ?_
  refine W_region ?_
  refine WL_cons hC.fn (.plain rfl (oc_assign hC .cint rfl rfl)) ?_
  refine WL_nil ?_
  refine W_blk ?_
  refine W_loopW (fun (ζ : Nat) => ⟨0, [(0, .i .i64 (rol x ζ)), (1, .i .i64 n), (5, .i .i64 ζ)], []⟩) (fun ζ => ζ ≤ m) (fun ζ => m - ζ) (0) (Nat.zero_le _) (weak (fun k => k) (.cons rfl (congrArg (AV.i _) (rol_zero hx)) trivial (.cons rfl (by first | rfl | exact congrArg (AV.i _) (by omega) | exact congrArg (AV.i _) (by simp; omega)) trivial (.cons rfl rfl trivial .nil))) .nil rfl rfl rfl) ?_
  intro i hR
  replace hR : i ≤ m := hR
  first | show W _ _ _ ⟨0, [(0, .i .i64 (rol x i)), (1, .i .i64 n), (5, .i .i64 i)], []⟩ | skip
  have hr := rol_range (n := i) hx (by omega)
  refine W_seq ?_
  refine W_seq ?_
  refine W_region ?_
  refine WL_cons hC.fn (.plain rfl (oc_move hC (.tmp rfl) rfl rfl)) ?_
  refine WL_cons hC.fn (.plain rfl (oc_move hC (.tmp rfl) rfl rfl)) ?_
  refine WL_cons hC.fn (.plain rfl (ox_cmp hC rfl (.tmp rfl) (.tmp rfl) rfl rfl rfl)) ?_
  refine WL_nil ?_
  refine W_cond rfl (by decide) (fun hc => ?_) (fun hc => ?_)
  ·
    replace hc := lss_t hc
    
    refine W_skip ?_
    refine W_seq ?_
    refine W_blk ?_
    refine W_region ?_
    refine WL_cons hC.fn (.plain rfl (oc_move hC (.tmp rfl) rfl rfl)) ?_
    refine WL_cons hC.fn (.plain rfl (oc_bin hC rfl (.tmp rfl) .cint (by first | exact i64_mul (by omega) | rfl) rfl rfl)) ?_
    refine WL_cons hC.fn (.plain rfl (oc_div hC (.inr rfl) (.tmp rfl) .cint (by first | decide | omega) (by first | exact rem_nn (by omega) | rfl) rfl rfl)) ?_
    refine WL_cons hC.fn (.plain rfl (oc_move hC (.tmp rfl) rfl rfl)) ?_
    refine WL_cons hC.fn (.plain rfl (oc_div hC (.inl rfl) (.tmp rfl) .cint (by first | decide | omega) (by first | exact i64_quo (by omega) (by omega) (by omega) | rfl) rfl rfl)) ?_
    refine WL_cons hC.fn (.plain rfl (oc_bin hC rfl (.tmp rfl) (.tmp rfl) (by first | exact i64_add (by omega) | rfl) rfl rfl)) ?_
    refine WL_cons hC.fn (.plain rfl (oc_assign hC (.tmp rfl) rfl rfl)) ?_
    refine WL_nil ?_
    refine W_region ?_
    refine WL_cons hC.fn (.plain rfl (oc_move hC (.tmp rfl) rfl rfl)) ?_
    refine WL_cons hC.fn (.plain rfl (oc_bin hC rfl (.tmp rfl) .cint (by first | exact i64_add (by omega) | rfl) rfl rfl)) ?_
    refine WL_cons hC.fn (.plain rfl (oc_assign hC (.tmp rfl) rfl rfl)) ?_
    refine WL_nil ?_
    exact ⟨(i + 1), (by omega), (weak (fun k => k) (.cons rfl (congrArg (AV.i _) (rol_succ hx (by omega)).symm) trivial (.cons rfl (by first | rfl | exact congrArg (AV.i _) (by omega) | exact congrArg (AV.i _) (by simp; omega)) trivial (.cons rfl (by first | rfl | exact congrArg (AV.i _) (by omega) | exact congrArg (AV.i _) (by simp; omega)) trivial .nil))) .nil rfl rfl rfl), (by omega)⟩
  ·
    replace hc := lss_f hc
    obtain rfl : i = m := by omega
    refine W_exit ?_
    refine W_seq ?_
    refine W_region ?_
    refine WL_cons hC.fn (.plain rfl (oc_move hC (.tmp rfl) rfl rfl)) ?_
    refine WL_cons hC.fn (.plain rfl (oc_assign hC (.tmp rfl) rfl rfl)) ?_
    refine WL_nil ?_
    refine W_ret ?_
    exact fin0 (.cons (.tmp rfl) .nil) (by first | rfl | (simp <;> fail)) (by first | exact inSL_I _ | simp)
set_option maxRecDepth 20000 in
set_option maxHeartbeats 4000000 in
theorem rxor_c (a b : Int) (ha : 0 ≤ a ∧ a < 4294967296) (hb : 0 ≤ b ∧ b < 4294967296) : FnC Try.prog 49 [] [.i .i64 a, .i .i64 b] [] [] (.i .i64 (xr a b)) := by
  have hx := xr_range a b
  refine FnC.introR (N0 := 0) (T := 11) (E := [(0, .i .i64 a), (1, .i .i64 b)]) Try.func49 rfl (by decide) mix rfl rfl rfl (by simp) rfl ⟨(by first | exact inSL_I _ | trivial | simp), (by first | exact inSL_I _ | trivial | simp), trivial⟩ (by simp) (by intro S _ _ h; simp) (fun F n0 X w ρ hC hro => ?_)
  refine W_seq ?_
  refine W_region ?_
  refine WL_cons hC.fn (.plain rfl (oc_assign hC .cint rfl rfl)) ?_
  refine WL_nil ?_
  refine W_seq ?_
  refine W_region ?_
  refine WL_cons hC.fn (.plain rfl (oc_move hC (.tmp rfl) rfl rfl)) ?_
  refine WL_cons hC.fn (.plain rfl (oc_conv hC (.tmp rfl) rfl Try.underlying36 (by first | exact u32_conv (by omega) | rfl) rfl rfl)) ?_
  refine WL_cons hC.fn (.plain rfl (oc_move hC (.tmp rfl) rfl rfl)) ?_
  refine WL_cons hC.fn (.plain rfl (oc_conv hC (.tmp rfl) rfl Try.underlying36 (by first | exact u32_conv (by omega) | rfl) rfl rfl)) ?_
  refine WL_cons hC.fn (.plain rfl (oc_bin hC rfl (.tmp rfl) (.tmp rfl) (r := xr a b) rfl rfl rfl)) ?_
  refine WL_cons hC.fn (.plain rfl (oc_conv hC (.tmp rfl) rfl Try.underlying3 (by first | exact i64_conv (by omega) | rfl) rfl rfl)) ?_
  refine WL_cons hC.fn (.plain rfl (oc_assign hC (.tmp rfl) rfl rfl)) ?_
  refine WL_nil ?_
  refine W_ret ?_
  exact fin0 (.cons (.tmp rfl) .nil) (by first | rfl | (simp <;> fail)) (by first | exact inSL_I _ | simp)
set_option maxRecDepth 20000 in
set_option maxHeartbeats 4000000 in
theorem rquarter_c (m a b c d : Nat) (s : List Int) (hs : s.length = m) (hW : W32 s) (ha : a < m) (hb : b < m) (hcm : c < m) (hd : d < m) (hm : m ≤ 1000) (hab : a ≠ b) (hac : a ≠ c) (had : a ≠ d) (hbc : b ≠ c) (hbd : b ≠ d) (hcd : c ≠ d) : FnC Try.prog 32 [] [.vs m (I .i64 s), .i .i64 (a : Nat), .i .i64 (b : Nat), .i .i64 (c : Nat), .i .i64 (d : Nat)] [] [(0, .row 3 1 m (I .i64 (quarterL s a b c d)))] (.row 0) := by
  obtain ⟨x, hva⟩ : ∃ x, s.getD a 0 = x := ⟨_, rfl⟩
  obtain ⟨y, hvb⟩ : ∃ x, s.getD b 0 = x := ⟨_, rfl⟩
  obtain ⟨z, hvc⟩ : ∃ x, s.getD c 0 = x := ⟨_, rfl⟩
  obtain ⟨wd, hvd⟩ : ∃ x, s.getD d 0 = x := ⟨_, rfl⟩
  have hxr := hW.get a
  have hyr := hW.get b
  have hzr := hW.get c
  have hwr := hW.get d
  rw [hva] at hxr
  rw [hvb] at hyr
  rw [hvc] at hzr
  rw [hvd] at hwr
  have hba := Ne.symm hab
  have hca := Ne.symm hac
  have hda := Ne.symm had
  have hcb := Ne.symm hbc
  have hdb := Ne.symm hbd
  have hdc := Ne.symm hcd
  have r1 := q1_range x y
  have r2 := q2_range x y wd
  have r3 := q3_range x y z wd
  have r4 := q4_range x y z wd
  have r5 := qa_range x y z wd
  have r6 := qd_range x y z wd
  have r7 := qc_range x y z wd
  have r8 := qb_range x y z wd
  refine FnC.introR (N0 := 0) (T := 120) (E := [(0, .vs m (I .i64 s)), (1, .i .i64 (a : Nat)), (2, .i .i64 (b : Nat)), (3, .i .i64 (c : Nat)), (4, .i .i64 (d : Nat))]) Try.func32 rfl (by decide) mix rfl rfl rfl (by simp) rfl ⟨(by first | exact inSL_I _ | trivial | simp), (by first | exact inSL_I _ | trivial | simp), (by first | exact inSL_I _ | trivial | simp), (by first | exact inSL_I _ | trivial | simp), (by first | exact inSL_I _ | trivial | simp), trivial⟩ (by simp) (by
        intro S ha hr hw
        have s0 : S 0 := hw 0 (by first | (simp; done) | (show some _ ≠ none; simp)) (by first | rfl | simp)
        refine ⟨by first | exact inSL_I _ | simp [s0], fun k b hm => ?_⟩
        simp only [List.mem_cons, Prod.mk.injEq, List.not_mem_nil, or_false] at hm
        rcases hm with ⟨rfl, rfl⟩
        · exact ⟨s0, by first | exact inSL_I _ | simp [s0]⟩) (fun F n0 X w ρ hC hro => ?_)
  refine W_seq ?_
  refine W_region ?_
  refine WL_cons hC.fn (.plain rfl (oc_assign hC .cnils rfl rfl)) ?_
  refine WL_nil ?_
  refine W_seq ?_
  refine W_region ?_
  refine WL_cons hC.fn (.plain rfl (ox_litRI (k := .i64) (ws := []) hC .nil Try.underlying52 cells_3 zero_3 rfl (by decide) rfl rfl (by first | rfl | simp) rfl rfl rfl)) ?_
  refine WL_cons hC.fn (.plain rfl (oc_move hC (.tmp rfl) rfl rfl)) ?_
  refine WL_cons hC.fn (.plain rfl (ox_append (n' := m) (cs' := I .i64 s) hC (.tmp rfl) (.tmp rfl) (by first | exact .row rfl rfl (by first | exact .here rfl | exact .there (.here rfl) rfl | exact .there (.there (.here rfl) rfl) rfl | exact .there (.there (.there (.here rfl) rfl) rfl) rfl | exact .there (.there (.there (.there (.here rfl) rfl) rfl) rfl) rfl | exact .there (.there (.there (.there (.there (.here rfl) rfl) rfl) rfl) rfl) rfl | exact .there (.there (.there (.there (.there (.there (.here rfl) rfl) rfl) rfl) rfl) rfl) rfl | exact .there (.there (.there (.there (.there (.there (.there (.here rfl) rfl) rfl) rfl) rfl) rfl) rfl) rfl | exact .there (.there (.there (.there (.there (.there (.there (.there (.here rfl) rfl) rfl) rfl) rfl) rfl) rfl) rfl) rfl | exact .there (.there (.there (.there (.there (.there (.there (.there (.there (.here rfl) rfl) rfl) rfl) rfl) rfl) rfl) rfl) rfl) rfl | exact .there (.there (.there (.there (.there (.there (.there (.there (.there (.there (.here rfl) rfl) rfl) rfl) rfl) rfl) rfl) rfl) rfl) rfl) rfl | exact .there (.there (.there (.there (.there (.there (.there (.there (.there (.there (.there (.here rfl) rfl) rfl) rfl) rfl) rfl) rfl) rfl) rfl) rfl) rfl) rfl | exact .there (.there (.there (.there (.there (.there (.there (.there (.there (.there (.there (.there (.here rfl) rfl) rfl) rfl) rfl) rfl) rfl) rfl) rfl) rfl) rfl) rfl) rfl | exact .there (.there (.there (.there (.there (.there (.there (.there (.there (.there (.there (.there (.there (.here rfl) rfl) rfl) rfl) rfl) rfl) rfl) rfl) rfl) rfl) rfl) rfl) rfl) rfl | exact .there (.there (.there (.there (.there (.there (.there (.there (.there (.there (.there (.there (.there (.there (.here rfl) rfl) rfl) rfl) rfl) rfl) rfl) rfl) rfl) rfl) rfl) rfl) rfl) rfl) rfl | exact .there (.there (.there (.there (.there (.there (.there (.there (.there (.there (.there (.there (.there (.there (.there (.here rfl) rfl) rfl) rfl) rfl) rfl) rfl) rfl) rfl) rfl) rfl) rfl) rfl) rfl) rfl) rfl) | exact .nils) (by first | exact .row rfl | exact .vs | exact .sl rfl | exact .nils) (by first | exact hro_nil | exact hro_one rfl) Try.underlying52 cells_3 bytes_3 zero_3 rfl (by decide) (by rw [length_I]; omega) (by first | rfl | exact one_takeI) (Nat.zero_add _) ((app_I (us := []) hs).trans rfl) (by simp only [maxLen]; omega) (by omega) rfl rfl)) ?_
  refine WL_cons hC.fn (.plain rfl (oc_assign hC (.tmp rfl) rfl rfl)) ?_
  refine WL_nil ?_
  refine W_seq ?_
  refine W_drawD hC ?_
  refine WD_cons (.plain rfl (oc_move hC (.tmp rfl) rfl rfl)) ?_
  refine WD_cons (.plain rfl (oc_move hC (.tmp rfl) rfl rfl)) ?_
  refine WD_cons (.plain rfl (oc_move hC (.tmp rfl) rfl rfl)) ?_
  refine WD_cons (.plain rfl (oc_move hC (.tmp rfl) rfl rfl)) ?_
  refine WD_cons (.plain rfl (ox_indexS hC  (.tmp rfl) (.tmp rfl) idx_52 (by first | rfl | exact toNat_up (by omega)) (by first | exact Nat.mul_one _ | rfl) (by first | exact .row rfl | exact .sl (Nat.zero_add _) | exact .sl rfl | exact .vs (by first | omega | (simp <;> fail) | (simp; omega))) (by first | omega | (simp <;> fail) | (simp; omega)) rfl rfl)) ?_
  refine WD_cons (.plain rfl (oc_load hC (v := .i .i64 x) (.tmp rfl) (by first | exact .p rfl | exact .rp) shp_3 (by exact (unit_at (by first | omega | (simp only [List.length_set]; omega)) hva)) rfl rfl)) ?_
  refine WD_cons (.plain rfl (oc_move hC (.tmp rfl) rfl rfl)) ?_
  refine WD_cons (.plain rfl (oc_move hC (.tmp rfl) rfl rfl)) ?_
  refine WD_cons (.plain rfl (ox_indexS hC  (.tmp rfl) (.tmp rfl) idx_52 (by first | rfl | exact toNat_up (by omega)) (by first | exact Nat.mul_one _ | rfl) (by first | exact .row rfl | exact .sl (Nat.zero_add _) | exact .sl rfl | exact .vs (by first | omega | (simp <;> fail) | (simp; omega))) (by first | omega | (simp <;> fail) | (simp; omega)) rfl rfl)) ?_
  refine WD_cons (.plain rfl (oc_load hC (v := .i .i64 y) (.tmp rfl) (by first | exact .p rfl | exact .rp) shp_3 (by exact (unit_at (by first | omega | (simp only [List.length_set]; omega)) hvb)) rfl rfl)) ?_
  refine WD_cons (.plain rfl (oc_bin hC rfl (.tmp rfl) (.tmp rfl) (by first | exact i64_add (by omega) | rfl) rfl rfl)) ?_
  refine WD_cons (.plain rfl (oc_call hC (.cons (.tmp rfl) .nil) (.cons1 (.free (by first | exact inSL_I _ | simp)) (.same (by first | exact inSL_I _ | simp))) (rword_c _ (by omega)) glob_nil (by first | exact inSL_I _ | simp) (by first | exact .inl rfl | exact .inr (by simp)) rfl rfl)) ?_
  rw [show (x + y) % 4294967296 = q1 x y by unfold q1; rfl]
  refine WD_cons (.plain rfl (ox_indexS hC  (.tmp rfl) (.tmp rfl) idx_52 (by first | rfl | exact toNat_up (by omega)) (by first | exact Nat.mul_one _ | rfl) (by first | exact .row rfl | exact .sl (Nat.zero_add _) | exact .sl rfl | exact .vs (by first | omega | (simp <;> fail) | (simp; omega))) (by first | omega | (simp <;> fail) | (simp; omega)) rfl rfl)) ?_
  refine WD_cons (.plain rfl (ox_store hC (.tmp rfl) (.tmp rfl) rfl shp_3 (by first | rfl | exact flat_agI) (by first | exact cells1 rfl | (rw [cells_ag, length_I]; omega) | rfl | (simp <;> fail) | (simp; omega)) (by first | exact Nat.le_refl _ | exact Nat.le_of_ble_eq_true rfl | decide | (simp <;> fail) | (simp; omega)) (put_rowI (by first | omega | (simp only [List.length_set]; omega))) (by first | exact .here | exact .there (.here) rfl | exact .there (.there (.here) rfl) rfl | exact .there (.there (.there (.here) rfl) rfl) rfl | exact .there (.there (.there (.there (.here) rfl) rfl) rfl) rfl | exact .there (.there (.there (.there (.there (.here) rfl) rfl) rfl) rfl) rfl | exact .there (.there (.there (.there (.there (.there (.here) rfl) rfl) rfl) rfl) rfl) rfl | exact .there (.there (.there (.there (.there (.there (.there (.here) rfl) rfl) rfl) rfl) rfl) rfl) rfl | exact .there (.there (.there (.there (.there (.there (.there (.there (.here) rfl) rfl) rfl) rfl) rfl) rfl) rfl) rfl | exact .there (.there (.there (.there (.there (.there (.there (.there (.there (.here) rfl) rfl) rfl) rfl) rfl) rfl) rfl) rfl) rfl) rfl)) ?_
  refine WD_nil (by kernel_rfl) ?_
  refine W_seq ?_
  refine W_drawD hC ?_
  refine WD_cons (.plain rfl (oc_move hC (.tmp rfl) rfl rfl)) ?_
  refine WD_cons (.plain rfl (oc_move hC (.tmp rfl) rfl rfl)) ?_
  refine WD_cons (.plain rfl (oc_move hC (.tmp rfl) rfl rfl)) ?_
  refine WD_cons (.plain rfl (oc_move hC (.tmp rfl) rfl rfl)) ?_
  refine WD_cons (.plain rfl (ox_indexS hC  (.tmp rfl) (.tmp rfl) idx_52 (by first | rfl | exact toNat_up (by omega)) (by first | exact Nat.mul_one _ | rfl) (by first | exact .row rfl | exact .sl (Nat.zero_add _) | exact .sl rfl | exact .vs (by first | omega | (simp <;> fail) | (simp; omega))) (by first | omega | (simp <;> fail) | (simp; omega)) rfl rfl)) ?_
  refine WD_cons (.plain rfl (oc_load hC (v := .i .i64 wd) (.tmp rfl) (by first | exact .p rfl | exact .rp) shp_3 (by exact (unit_at (by first | omega | (simp only [List.length_set]; omega)) (by rw [sd_ne had]; exact hvd))) rfl rfl)) ?_
  refine WD_cons (.plain rfl (oc_move hC (.tmp rfl) rfl rfl)) ?_
  refine WD_cons (.plain rfl (oc_move hC (.tmp rfl) rfl rfl)) ?_
  refine WD_cons (.plain rfl (ox_indexS hC  (.tmp rfl) (.tmp rfl) idx_52 (by first | rfl | exact toNat_up (by omega)) (by first | exact Nat.mul_one _ | rfl) (by first | exact .row rfl | exact .sl (Nat.zero_add _) | exact .sl rfl | exact .vs (by first | omega | (simp <;> fail) | (simp; omega))) (by first | omega | (simp <;> fail) | (simp; omega)) rfl rfl)) ?_
  refine WD_cons (.plain rfl (oc_load hC (v := .i .i64 (q1 x y)) (.tmp rfl) (by first | exact .p rfl | exact .rp) shp_3 (by exact (unit_at (by first | omega | (simp only [List.length_set]; omega)) (by rw [sd_eq (by first | omega | (simp only [List.length_set]; omega))]))) rfl rfl)) ?_
  refine WD_cons (.plain rfl (oc_call hC (.cons (.tmp rfl) (.cons (.tmp rfl) .nil)) (.cons1 (.free (by first | exact inSL_I _ | simp)) (.cons1 (.free (by first | exact inSL_I _ | simp)) (.same (by first | exact inSL_I _ | simp)))) (rxor_c _ _ (by omega) (by omega)) glob_nil (by first | exact inSL_I _ | simp) (by first | exact .inl rfl | exact .inr (by simp)) rfl rfl)) ?_
  refine WD_cons (.plain rfl (oc_call hC (.cons (.tmp rfl) (.cons .cint .nil)) (.cons1 (.free (by first | exact inSL_I _ | simp)) (.cons1 (.free (by first | exact inSL_I _ | simp)) (.same (by first | exact inSL_I _ | simp)))) (rturn_c _ _ 16 rfl (xr_range _ _) (by decide)) glob_nil (by first | exact inSL_I _ | simp) (by first | exact .inl rfl | exact .inr (by simp)) rfl rfl)) ?_
  rw [show rol (xr wd (q1 x y)) 16 = q2 x y wd by unfold q2; rfl]
  refine WD_cons (.plain rfl (ox_indexS hC  (.tmp rfl) (.tmp rfl) idx_52 (by first | rfl | exact toNat_up (by omega)) (by first | exact Nat.mul_one _ | rfl) (by first | exact .row rfl | exact .sl (Nat.zero_add _) | exact .sl rfl | exact .vs (by first | omega | (simp <;> fail) | (simp; omega))) (by first | omega | (simp <;> fail) | (simp; omega)) rfl rfl)) ?_
  refine WD_cons (.plain rfl (ox_store hC (.tmp rfl) (.tmp rfl) rfl shp_3 (by first | rfl | exact flat_agI) (by first | exact cells1 rfl | (rw [cells_ag, length_I]; omega) | rfl | (simp <;> fail) | (simp; omega)) (by first | exact Nat.le_refl _ | exact Nat.le_of_ble_eq_true rfl | decide | (simp <;> fail) | (simp; omega)) (put_rowI (by first | omega | (simp only [List.length_set]; omega))) (by first | exact .here | exact .there (.here) rfl | exact .there (.there (.here) rfl) rfl | exact .there (.there (.there (.here) rfl) rfl) rfl | exact .there (.there (.there (.there (.here) rfl) rfl) rfl) rfl | exact .there (.there (.there (.there (.there (.here) rfl) rfl) rfl) rfl) rfl | exact .there (.there (.there (.there (.there (.there (.here) rfl) rfl) rfl) rfl) rfl) rfl | exact .there (.there (.there (.there (.there (.there (.there (.here) rfl) rfl) rfl) rfl) rfl) rfl) rfl | exact .there (.there (.there (.there (.there (.there (.there (.there (.here) rfl) rfl) rfl) rfl) rfl) rfl) rfl) rfl | exact .there (.there (.there (.there (.there (.there (.there (.there (.there (.here) rfl) rfl) rfl) rfl) rfl) rfl) rfl) rfl) rfl) rfl)) ?_
  refine WD_nil (by kernel_rfl) ?_
  refine W_seq ?_
  refine W_drawD hC ?_
  refine WD_cons (.plain rfl (oc_move hC (.tmp rfl) rfl rfl)) ?_
  refine WD_cons (.plain rfl (oc_move hC (.tmp rfl) rfl rfl)) ?_
  refine WD_cons (.plain rfl (oc_move hC (.tmp rfl) rfl rfl)) ?_
  refine WD_cons (.plain rfl (oc_move hC (.tmp rfl) rfl rfl)) ?_
  refine WD_cons (.plain rfl (ox_indexS hC  (.tmp rfl) (.tmp rfl) idx_52 (by first | rfl | exact toNat_up (by omega)) (by first | exact Nat.mul_one _ | rfl) (by first | exact .row rfl | exact .sl (Nat.zero_add _) | exact .sl rfl | exact .vs (by first | omega | (simp <;> fail) | (simp; omega))) (by first | omega | (simp <;> fail) | (simp; omega)) rfl rfl)) ?_
  refine WD_cons (.plain rfl (oc_load hC (v := .i .i64 z) (.tmp rfl) (by first | exact .p rfl | exact .rp) shp_3 (by exact (unit_at (by first | omega | (simp only [List.length_set]; omega)) (by rw [sd_ne hdc, sd_ne hac]; exact hvc))) rfl rfl)) ?_
  refine WD_cons (.plain rfl (oc_move hC (.tmp rfl) rfl rfl)) ?_
  refine WD_cons (.plain rfl (oc_move hC (.tmp rfl) rfl rfl)) ?_
  refine WD_cons (.plain rfl (ox_indexS hC  (.tmp rfl) (.tmp rfl) idx_52 (by first | rfl | exact toNat_up (by omega)) (by first | exact Nat.mul_one _ | rfl) (by first | exact .row rfl | exact .sl (Nat.zero_add _) | exact .sl rfl | exact .vs (by first | omega | (simp <;> fail) | (simp; omega))) (by first | omega | (simp <;> fail) | (simp; omega)) rfl rfl)) ?_
  refine WD_cons (.plain rfl (oc_load hC (v := .i .i64 (q2 x y wd)) (.tmp rfl) (by first | exact .p rfl | exact .rp) shp_3 (by exact (unit_at (by first | omega | (simp only [List.length_set]; omega)) (by rw [sd_eq (by first | omega | (simp only [List.length_set]; omega))]))) rfl rfl)) ?_
  refine WD_cons (.plain rfl (oc_bin hC rfl (.tmp rfl) (.tmp rfl) (by first | exact i64_add (by omega) | rfl) rfl rfl)) ?_
  refine WD_cons (.plain rfl (oc_call hC (.cons (.tmp rfl) .nil) (.cons1 (.free (by first | exact inSL_I _ | simp)) (.same (by first | exact inSL_I _ | simp))) (rword_c _ (by omega)) glob_nil (by first | exact inSL_I _ | simp) (by first | exact .inl rfl | exact .inr (by simp)) rfl rfl)) ?_
  rw [show (z + (q2 x y wd)) % 4294967296 = q3 x y z wd by unfold q3; rfl]
  refine WD_cons (.plain rfl (ox_indexS hC  (.tmp rfl) (.tmp rfl) idx_52 (by first | rfl | exact toNat_up (by omega)) (by first | exact Nat.mul_one _ | rfl) (by first | exact .row rfl | exact .sl (Nat.zero_add _) | exact .sl rfl | exact .vs (by first | omega | (simp <;> fail) | (simp; omega))) (by first | omega | (simp <;> fail) | (simp; omega)) rfl rfl)) ?_
  refine WD_cons (.plain rfl (ox_store hC (.tmp rfl) (.tmp rfl) rfl shp_3 (by first | rfl | exact flat_agI) (by first | exact cells1 rfl | (rw [cells_ag, length_I]; omega) | rfl | (simp <;> fail) | (simp; omega)) (by first | exact Nat.le_refl _ | exact Nat.le_of_ble_eq_true rfl | decide | (simp <;> fail) | (simp; omega)) (put_rowI (by first | omega | (simp only [List.length_set]; omega))) (by first | exact .here | exact .there (.here) rfl | exact .there (.there (.here) rfl) rfl | exact .there (.there (.there (.here) rfl) rfl) rfl | exact .there (.there (.there (.there (.here) rfl) rfl) rfl) rfl | exact .there (.there (.there (.there (.there (.here) rfl) rfl) rfl) rfl) rfl | exact .there (.there (.there (.there (.there (.there (.here) rfl) rfl) rfl) rfl) rfl) rfl | exact .there (.there (.there (.there (.there (.there (.there (.here) rfl) rfl) rfl) rfl) rfl) rfl) rfl | exact .there (.there (.there (.there (.there (.there (.there (.there (.here) rfl) rfl) rfl) rfl) rfl) rfl) rfl) rfl | exact .there (.there (.there (.there (.there (.there (.there (.there (.there (.here) rfl) rfl) rfl) rfl) rfl) rfl) rfl) rfl) rfl) rfl)) ?_
  refine WD_nil (by kernel_rfl) ?_
  refine W_seq ?_
  refine W_drawD hC ?_
  refine WD_cons (.plain rfl (oc_move hC (.tmp rfl) rfl rfl)) ?_
  refine WD_cons (.plain rfl (oc_move hC (.tmp rfl) rfl rfl)) ?_
  refine WD_cons (.plain rfl (oc_move hC (.tmp rfl) rfl rfl)) ?_
  refine WD_cons (.plain rfl (oc_move hC (.tmp rfl) rfl rfl)) ?_
  refine WD_cons (.plain rfl (ox_indexS hC  (.tmp rfl) (.tmp rfl) idx_52 (by first | rfl | exact toNat_up (by omega)) (by first | exact Nat.mul_one _ | rfl) (by first | exact .row rfl | exact .sl (Nat.zero_add _) | exact .sl rfl | exact .vs (by first | omega | (simp <;> fail) | (simp; omega))) (by first | omega | (simp <;> fail) | (simp; omega)) rfl rfl)) ?_
  refine WD_cons (.plain rfl (oc_load hC (v := .i .i64 y) (.tmp rfl) (by first | exact .p rfl | exact .rp) shp_3 (by exact (unit_at (by first | omega | (simp only [List.length_set]; omega)) (by rw [sd_ne hcb, sd_ne hdb, sd_ne hab]; exact hvb))) rfl rfl)) ?_
  refine WD_cons (.plain rfl (oc_move hC (.tmp rfl) rfl rfl)) ?_
  refine WD_cons (.plain rfl (oc_move hC (.tmp rfl) rfl rfl)) ?_
  refine WD_cons (.plain rfl (ox_indexS hC  (.tmp rfl) (.tmp rfl) idx_52 (by first | rfl | exact toNat_up (by omega)) (by first | exact Nat.mul_one _ | rfl) (by first | exact .row rfl | exact .sl (Nat.zero_add _) | exact .sl rfl | exact .vs (by first | omega | (simp <;> fail) | (simp; omega))) (by first | omega | (simp <;> fail) | (simp; omega)) rfl rfl)) ?_
  refine WD_cons (.plain rfl (oc_load hC (v := .i .i64 (q3 x y z wd)) (.tmp rfl) (by first | exact .p rfl | exact .rp) shp_3 (by exact (unit_at (by first | omega | (simp only [List.length_set]; omega)) (by rw [sd_eq (by first | omega | (simp only [List.length_set]; omega))]))) rfl rfl)) ?_
  refine WD_cons (.plain rfl (oc_call hC (.cons (.tmp rfl) (.cons (.tmp rfl) .nil)) (.cons1 (.free (by first | exact inSL_I _ | simp)) (.cons1 (.free (by first | exact inSL_I _ | simp)) (.same (by first | exact inSL_I _ | simp)))) (rxor_c _ _ (by omega) (by omega)) glob_nil (by first | exact inSL_I _ | simp) (by first | exact .inl rfl | exact .inr (by simp)) rfl rfl)) ?_
  refine WD_cons (.plain rfl (oc_call hC (.cons (.tmp rfl) (.cons .cint .nil)) (.cons1 (.free (by first | exact inSL_I _ | simp)) (.cons1 (.free (by first | exact inSL_I _ | simp)) (.same (by first | exact inSL_I _ | simp)))) (rturn_c _ _ 12 rfl (xr_range _ _) (by decide)) glob_nil (by first | exact inSL_I _ | simp) (by first | exact .inl rfl | exact .inr (by simp)) rfl rfl)) ?_
  rw [show rol (xr y (q3 x y z wd)) 12 = q4 x y z wd by unfold q4; rfl]
  refine WD_cons (.plain rfl (ox_indexS hC  (.tmp rfl) (.tmp rfl) idx_52 (by first | rfl | exact toNat_up (by omega)) (by first | exact Nat.mul_one _ | rfl) (by first | exact .row rfl | exact .sl (Nat.zero_add _) | exact .sl rfl | exact .vs (by first | omega | (simp <;> fail) | (simp; omega))) (by first | omega | (simp <;> fail) | (simp; omega)) rfl rfl)) ?_
  refine WD_cons (.plain rfl (ox_store hC (.tmp rfl) (.tmp rfl) rfl shp_3 (by first | rfl | exact flat_agI) (by first | exact cells1 rfl | (rw [cells_ag, length_I]; omega) | rfl | (simp <;> fail) | (simp; omega)) (by first | exact Nat.le_refl _ | exact Nat.le_of_ble_eq_true rfl | decide | (simp <;> fail) | (simp; omega)) (put_rowI (by first | omega | (simp only [List.length_set]; omega))) (by first | exact .here | exact .there (.here) rfl | exact .there (.there (.here) rfl) rfl | exact .there (.there (.there (.here) rfl) rfl) rfl | exact .there (.there (.there (.there (.here) rfl) rfl) rfl) rfl | exact .there (.there (.there (.there (.there (.here) rfl) rfl) rfl) rfl) rfl | exact .there (.there (.there (.there (.there (.there (.here) rfl) rfl) rfl) rfl) rfl) rfl | exact .there (.there (.there (.there (.there (.there (.there (.here) rfl) rfl) rfl) rfl) rfl) rfl) rfl | exact .there (.there (.there (.there (.there (.there (.there (.there (.here) rfl) rfl) rfl) rfl) rfl) rfl) rfl) rfl | exact .there (.there (.there (.there (.there (.there (.there (.there (.there (.here) rfl) rfl) rfl) rfl) rfl) rfl) rfl) rfl) rfl) rfl)) ?_
  refine WD_nil (by kernel_rfl) ?_
  refine W_seq ?_
  refine W_drawD hC ?_
  refine WD_cons (.plain rfl (oc_move hC (.tmp rfl) rfl rfl)) ?_
  refine WD_cons (.plain rfl (oc_move hC (.tmp rfl) rfl rfl)) ?_
  refine WD_cons (.plain rfl (oc_move hC (.tmp rfl) rfl rfl)) ?_
  refine WD_cons (.plain rfl (oc_move hC (.tmp rfl) rfl rfl)) ?_
  refine WD_cons (.plain rfl (ox_indexS hC  (.tmp rfl) (.tmp rfl) idx_52 (by first | rfl | exact toNat_up (by omega)) (by first | exact Nat.mul_one _ | rfl) (by first | exact .row rfl | exact .sl (Nat.zero_add _) | exact .sl rfl | exact .vs (by first | omega | (simp <;> fail) | (simp; omega))) (by first | omega | (simp <;> fail) | (simp; omega)) rfl rfl)) ?_
  refine WD_cons (.plain rfl (oc_load hC (v := .i .i64 (q1 x y)) (.tmp rfl) (by first | exact .p rfl | exact .rp) shp_3 (by exact (unit_at (by first | omega | (simp only [List.length_set]; omega)) (by rw [sd_ne hba, sd_ne hca, sd_ne hda, sd_eq (by first | omega | (simp only [List.length_set]; omega))]))) rfl rfl)) ?_
  refine WD_cons (.plain rfl (oc_move hC (.tmp rfl) rfl rfl)) ?_
  refine WD_cons (.plain rfl (oc_move hC (.tmp rfl) rfl rfl)) ?_
  refine WD_cons (.plain rfl (ox_indexS hC  (.tmp rfl) (.tmp rfl) idx_52 (by first | rfl | exact toNat_up (by omega)) (by first | exact Nat.mul_one _ | rfl) (by first | exact .row rfl | exact .sl (Nat.zero_add _) | exact .sl rfl | exact .vs (by first | omega | (simp <;> fail) | (simp; omega))) (by first | omega | (simp <;> fail) | (simp; omega)) rfl rfl)) ?_
  refine WD_cons (.plain rfl (oc_load hC (v := .i .i64 (q4 x y z wd)) (.tmp rfl) (by first | exact .p rfl | exact .rp) shp_3 (by exact (unit_at (by first | omega | (simp only [List.length_set]; omega)) (by rw [sd_eq (by first | omega | (simp only [List.length_set]; omega))]))) rfl rfl)) ?_
  refine WD_cons (.plain rfl (oc_bin hC rfl (.tmp rfl) (.tmp rfl) (by first | exact i64_add (by omega) | rfl) rfl rfl)) ?_
  refine WD_cons (.plain rfl (oc_call hC (.cons (.tmp rfl) .nil) (.cons1 (.free (by first | exact inSL_I _ | simp)) (.same (by first | exact inSL_I _ | simp))) (rword_c _ (by omega)) glob_nil (by first | exact inSL_I _ | simp) (by first | exact .inl rfl | exact .inr (by simp)) rfl rfl)) ?_
  rw [show ((q1 x y) + (q4 x y z wd)) % 4294967296 = qa x y z wd by unfold qa; rfl]
  refine WD_cons (.plain rfl (ox_indexS hC  (.tmp rfl) (.tmp rfl) idx_52 (by first | rfl | exact toNat_up (by omega)) (by first | exact Nat.mul_one _ | rfl) (by first | exact .row rfl | exact .sl (Nat.zero_add _) | exact .sl rfl | exact .vs (by first | omega | (simp <;> fail) | (simp; omega))) (by first | omega | (simp <;> fail) | (simp; omega)) rfl rfl)) ?_
  refine WD_cons (.plain rfl (ox_store hC (.tmp rfl) (.tmp rfl) rfl shp_3 (by first | rfl | exact flat_agI) (by first | exact cells1 rfl | (rw [cells_ag, length_I]; omega) | rfl | (simp <;> fail) | (simp; omega)) (by first | exact Nat.le_refl _ | exact Nat.le_of_ble_eq_true rfl | decide | (simp <;> fail) | (simp; omega)) (put_rowI (by first | omega | (simp only [List.length_set]; omega))) (by first | exact .here | exact .there (.here) rfl | exact .there (.there (.here) rfl) rfl | exact .there (.there (.there (.here) rfl) rfl) rfl | exact .there (.there (.there (.there (.here) rfl) rfl) rfl) rfl | exact .there (.there (.there (.there (.there (.here) rfl) rfl) rfl) rfl) rfl | exact .there (.there (.there (.there (.there (.there (.here) rfl) rfl) rfl) rfl) rfl) rfl | exact .there (.there (.there (.there (.there (.there (.there (.here) rfl) rfl) rfl) rfl) rfl) rfl) rfl | exact .there (.there (.there (.there (.there (.there (.there (.there (.here) rfl) rfl) rfl) rfl) rfl) rfl) rfl) rfl | exact .there (.there (.there (.there (.there (.there (.there (.there (.there (.here) rfl) rfl) rfl) rfl) rfl) rfl) rfl) rfl) rfl) rfl)) ?_
  refine WD_nil (by kernel_rfl) ?_
  refine W_seq ?_
  refine W_drawD hC ?_
  refine WD_cons (.plain rfl (oc_move hC (.tmp rfl) rfl rfl)) ?_
  refine WD_cons (.plain rfl (oc_move hC (.tmp rfl) rfl rfl)) ?_
  refine WD_cons (.plain rfl (oc_move hC (.tmp rfl) rfl rfl)) ?_
  refine WD_cons (.plain rfl (oc_move hC (.tmp rfl) rfl rfl)) ?_
  refine WD_cons (.plain rfl (ox_indexS hC  (.tmp rfl) (.tmp rfl) idx_52 (by first | rfl | exact toNat_up (by omega)) (by first | exact Nat.mul_one _ | rfl) (by first | exact .row rfl | exact .sl (Nat.zero_add _) | exact .sl rfl | exact .vs (by first | omega | (simp <;> fail) | (simp; omega))) (by first | omega | (simp <;> fail) | (simp; omega)) rfl rfl)) ?_
  refine WD_cons (.plain rfl (oc_load hC (v := .i .i64 (q2 x y wd)) (.tmp rfl) (by first | exact .p rfl | exact .rp) shp_3 (by exact (unit_at (by first | omega | (simp only [List.length_set]; omega)) (by rw [sd_ne had, sd_ne hbd, sd_ne hcd, sd_eq (by first | omega | (simp only [List.length_set]; omega))]))) rfl rfl)) ?_
  refine WD_cons (.plain rfl (oc_move hC (.tmp rfl) rfl rfl)) ?_
  refine WD_cons (.plain rfl (oc_move hC (.tmp rfl) rfl rfl)) ?_
  refine WD_cons (.plain rfl (ox_indexS hC  (.tmp rfl) (.tmp rfl) idx_52 (by first | rfl | exact toNat_up (by omega)) (by first | exact Nat.mul_one _ | rfl) (by first | exact .row rfl | exact .sl (Nat.zero_add _) | exact .sl rfl | exact .vs (by first | omega | (simp <;> fail) | (simp; omega))) (by first | omega | (simp <;> fail) | (simp; omega)) rfl rfl)) ?_
  refine WD_cons (.plain rfl (oc_load hC (v := .i .i64 (qa x y z wd)) (.tmp rfl) (by first | exact .p rfl | exact .rp) shp_3 (by exact (unit_at (by first | omega | (simp only [List.length_set]; omega)) (by rw [sd_eq (by first | omega | (simp only [List.length_set]; omega))]))) rfl rfl)) ?_
  refine WD_cons (.plain rfl (oc_call hC (.cons (.tmp rfl) (.cons (.tmp rfl) .nil)) (.cons1 (.free (by first | exact inSL_I _ | simp)) (.cons1 (.free (by first | exact inSL_I _ | simp)) (.same (by first | exact inSL_I _ | simp)))) (rxor_c _ _ (by omega) (by omega)) glob_nil (by first | exact inSL_I _ | simp) (by first | exact .inl rfl | exact .inr (by simp)) rfl rfl)) ?_
  refine WD_cons (.plain rfl (oc_call hC (.cons (.tmp rfl) (.cons .cint .nil)) (.cons1 (.free (by first | exact inSL_I _ | simp)) (.cons1 (.free (by first | exact inSL_I _ | simp)) (.same (by first | exact inSL_I _ | simp)))) (rturn_c _ _ 8 rfl (xr_range _ _) (by decide)) glob_nil (by first | exact inSL_I _ | simp) (by first | exact .inl rfl | exact .inr (by simp)) rfl rfl)) ?_
  rw [show rol (xr (q2 x y wd) (qa x y z wd)) 8 = qd x y z wd by unfold qd; rfl]
  refine WD_cons (.plain rfl (ox_indexS hC  (.tmp rfl) (.tmp rfl) idx_52 (by first | rfl | exact toNat_up (by omega)) (by first | exact Nat.mul_one _ | rfl) (by first | exact .row rfl | exact .sl (Nat.zero_add _) | exact .sl rfl | exact .vs (by first | omega | (simp <;> fail) | (simp; omega))) (by first | omega | (simp <;> fail) | (simp; omega)) rfl rfl)) ?_
  refine WD_cons (.plain rfl (ox_store hC (.tmp rfl) (.tmp rfl) rfl shp_3 (by first | rfl | exact flat_agI) (by first | exact cells1 rfl | (rw [cells_ag, length_I]; omega) | rfl | (simp <;> fail) | (simp; omega)) (by first | exact Nat.le_refl _ | exact Nat.le_of_ble_eq_true rfl | decide | (simp <;> fail) | (simp; omega)) (put_rowI (by first | omega | (simp only [List.length_set]; omega))) (by first | exact .here | exact .there (.here) rfl | exact .there (.there (.here) rfl) rfl | exact .there (.there (.there (.here) rfl) rfl) rfl | exact .there (.there (.there (.there (.here) rfl) rfl) rfl) rfl | exact .there (.there (.there (.there (.there (.here) rfl) rfl) rfl) rfl) rfl | exact .there (.there (.there (.there (.there (.there (.here) rfl) rfl) rfl) rfl) rfl) rfl | exact .there (.there (.there (.there (.there (.there (.there (.here) rfl) rfl) rfl) rfl) rfl) rfl) rfl | exact .there (.there (.there (.there (.there (.there (.there (.there (.here) rfl) rfl) rfl) rfl) rfl) rfl) rfl) rfl | exact .there (.there (.there (.there (.there (.there (.there (.there (.there (.here) rfl) rfl) rfl) rfl) rfl) rfl) rfl) rfl) rfl) rfl)) ?_
  refine WD_nil (by kernel_rfl) ?_
  refine W_seq ?_
  refine W_drawD hC ?_
  refine WD_cons (.plain rfl (oc_move hC (.tmp rfl) rfl rfl)) ?_
  refine WD_cons (.plain rfl (oc_move hC (.tmp rfl) rfl rfl)) ?_
  refine WD_cons (.plain rfl (oc_move hC (.tmp rfl) rfl rfl)) ?_
  refine WD_cons (.plain rfl (oc_move hC (.tmp rfl) rfl rfl)) ?_
  refine WD_cons (.plain rfl (ox_indexS hC  (.tmp rfl) (.tmp rfl) idx_52 (by first | rfl | exact toNat_up (by omega)) (by first | exact Nat.mul_one _ | rfl) (by first | exact .row rfl | exact .sl (Nat.zero_add _) | exact .sl rfl | exact .vs (by first | omega | (simp <;> fail) | (simp; omega))) (by first | omega | (simp <;> fail) | (simp; omega)) rfl rfl)) ?_
  refine WD_cons (.plain rfl (oc_load hC (v := .i .i64 (q3 x y z wd)) (.tmp rfl) (by first | exact .p rfl | exact .rp) shp_3 (by exact (unit_at (by first | omega | (simp only [List.length_set]; omega)) (by rw [sd_ne hdc, sd_ne hac, sd_ne hbc, sd_eq (by first | omega | (simp only [List.length_set]; omega))]))) rfl rfl)) ?_
  refine WD_cons (.plain rfl (oc_move hC (.tmp rfl) rfl rfl)) ?_
  refine WD_cons (.plain rfl (oc_move hC (.tmp rfl) rfl rfl)) ?_
  refine WD_cons (.plain rfl (ox_indexS hC  (.tmp rfl) (.tmp rfl) idx_52 (by first | rfl | exact toNat_up (by omega)) (by first | exact Nat.mul_one _ | rfl) (by first | exact .row rfl | exact .sl (Nat.zero_add _) | exact .sl rfl | exact .vs (by first | omega | (simp <;> fail) | (simp; omega))) (by first | omega | (simp <;> fail) | (simp; omega)) rfl rfl)) ?_
  refine WD_cons (.plain rfl (oc_load hC (v := .i .i64 (qd x y z wd)) (.tmp rfl) (by first | exact .p rfl | exact .rp) shp_3 (by exact (unit_at (by first | omega | (simp only [List.length_set]; omega)) (by rw [sd_eq (by first | omega | (simp only [List.length_set]; omega))]))) rfl rfl)) ?_
  refine WD_cons (.plain rfl (oc_bin hC rfl (.tmp rfl) (.tmp rfl) (by first | exact i64_add (by omega) | rfl) rfl rfl)) ?_
  refine WD_cons (.plain rfl (oc_call hC (.cons (.tmp rfl) .nil) (.cons1 (.free (by first | exact inSL_I _ | simp)) (.same (by first | exact inSL_I _ | simp))) (rword_c _ (by omega)) glob_nil (by first | exact inSL_I _ | simp) (by first | exact .inl rfl | exact .inr (by simp)) rfl rfl)) ?_
  rw [show ((q3 x y z wd) + (qd x y z wd)) % 4294967296 = qc x y z wd by unfold qc; rfl]
  refine WD_cons (.plain rfl (ox_indexS hC  (.tmp rfl) (.tmp rfl) idx_52 (by first | rfl | exact toNat_up (by omega)) (by first | exact Nat.mul_one _ | rfl) (by first | exact .row rfl | exact .sl (Nat.zero_add _) | exact .sl rfl | exact .vs (by first | omega | (simp <;> fail) | (simp; omega))) (by first | omega | (simp <;> fail) | (simp; omega)) rfl rfl)) ?_
  refine WD_cons (.plain rfl (ox_store hC (.tmp rfl) (.tmp rfl) rfl shp_3 (by first | rfl | exact flat_agI) (by first | exact cells1 rfl | (rw [cells_ag, length_I]; omega) | rfl | (simp <;> fail) | (simp; omega)) (by first | exact Nat.le_refl _ | exact Nat.le_of_ble_eq_true rfl | decide | (simp <;> fail) | (simp; omega)) (put_rowI (by first | omega | (simp only [List.length_set]; omega))) (by first | exact .here | exact .there (.here) rfl | exact .there (.there (.here) rfl) rfl | exact .there (.there (.there (.here) rfl) rfl) rfl | exact .there (.there (.there (.there (.here) rfl) rfl) rfl) rfl | exact .there (.there (.there (.there (.there (.here) rfl) rfl) rfl) rfl) rfl | exact .there (.there (.there (.there (.there (.there (.here) rfl) rfl) rfl) rfl) rfl) rfl | exact .there (.there (.there (.there (.there (.there (.there (.here) rfl) rfl) rfl) rfl) rfl) rfl) rfl | exact .there (.there (.there (.there (.there (.there (.there (.there (.here) rfl) rfl) rfl) rfl) rfl) rfl) rfl) rfl | exact .there (.there (.there (.there (.there (.there (.there (.there (.there (.here) rfl) rfl) rfl) rfl) rfl) rfl) rfl) rfl) rfl) rfl)) ?_
  refine WD_nil (by kernel_rfl) ?_
  refine W_seq ?_
  refine W_drawD hC ?_
  refine WD_cons (.plain rfl (oc_move hC (.tmp rfl) rfl rfl)) ?_
  refine WD_cons (.plain rfl (oc_move hC (.tmp rfl) rfl rfl)) ?_
  refine WD_cons (.plain rfl (oc_move hC (.tmp rfl) rfl rfl)) ?_
  refine WD_cons (.plain rfl (oc_move hC (.tmp rfl) rfl rfl)) ?_
  refine WD_cons (.plain rfl (ox_indexS hC  (.tmp rfl) (.tmp rfl) idx_52 (by first | rfl | exact toNat_up (by omega)) (by first | exact Nat.mul_one _ | rfl) (by first | exact .row rfl | exact .sl (Nat.zero_add _) | exact .sl rfl | exact .vs (by first | omega | (simp <;> fail) | (simp; omega))) (by first | omega | (simp <;> fail) | (simp; omega)) rfl rfl)) ?_
  refine WD_cons (.plain rfl (oc_load hC (v := .i .i64 (q4 x y z wd)) (.tmp rfl) (by first | exact .p rfl | exact .rp) shp_3 (by exact (unit_at (by first | omega | (simp only [List.length_set]; omega)) (by rw [sd_ne hcb, sd_ne hdb, sd_ne hab, sd_eq (by first | omega | (simp only [List.length_set]; omega))]))) rfl rfl)) ?_
  refine WD_cons (.plain rfl (oc_move hC (.tmp rfl) rfl rfl)) ?_
  refine WD_cons (.plain rfl (oc_move hC (.tmp rfl) rfl rfl)) ?_
  refine WD_cons (.plain rfl (ox_indexS hC  (.tmp rfl) (.tmp rfl) idx_52 (by first | rfl | exact toNat_up (by omega)) (by first | exact Nat.mul_one _ | rfl) (by first | exact .row rfl | exact .sl (Nat.zero_add _) | exact .sl rfl | exact .vs (by first | omega | (simp <;> fail) | (simp; omega))) (by first | omega | (simp <;> fail) | (simp; omega)) rfl rfl)) ?_
  refine WD_cons (.plain rfl (oc_load hC (v := .i .i64 (qc x y z wd)) (.tmp rfl) (by first | exact .p rfl | exact .rp) shp_3 (by exact (unit_at (by first | omega | (simp only [List.length_set]; omega)) (by rw [sd_eq (by first | omega | (simp only [List.length_set]; omega))]))) rfl rfl)) ?_
  refine WD_cons (.plain rfl (oc_call hC (.cons (.tmp rfl) (.cons (.tmp rfl) .nil)) (.cons1 (.free (by first | exact inSL_I _ | simp)) (.cons1 (.free (by first | exact inSL_I _ | simp)) (.same (by first | exact inSL_I _ | simp)))) (rxor_c _ _ (by omega) (by omega)) glob_nil (by first | exact inSL_I _ | simp) (by first | exact .inl rfl | exact .inr (by simp)) rfl rfl)) ?_
  refine WD_cons (.plain rfl (oc_call hC (.cons (.tmp rfl) (.cons .cint .nil)) (.cons1 (.free (by first | exact inSL_I _ | simp)) (.cons1 (.free (by first | exact inSL_I _ | simp)) (.same (by first | exact inSL_I _ | simp)))) (rturn_c _ _ 7 rfl (xr_range _ _) (by decide)) glob_nil (by first | exact inSL_I _ | simp) (by first | exact .inl rfl | exact .inr (by simp)) rfl rfl)) ?_
  rw [show rol (xr (q4 x y z wd) (qc x y z wd)) 7 = qb x y z wd by unfold qb; rfl]
  refine WD_cons (.plain rfl (ox_indexS hC  (.tmp rfl) (.tmp rfl) idx_52 (by first | rfl | exact toNat_up (by omega)) (by first | exact Nat.mul_one _ | rfl) (by first | exact .row rfl | exact .sl (Nat.zero_add _) | exact .sl rfl | exact .vs (by first | omega | (simp <;> fail) | (simp; omega))) (by first | omega | (simp <;> fail) | (simp; omega)) rfl rfl)) ?_
  refine WD_cons (.plain rfl (ox_store hC (.tmp rfl) (.tmp rfl) rfl shp_3 (by first | rfl | exact flat_agI) (by first | exact cells1 rfl | (rw [cells_ag, length_I]; omega) | rfl | (simp <;> fail) | (simp; omega)) (by first | exact Nat.le_refl _ | exact Nat.le_of_ble_eq_true rfl | decide | (simp <;> fail) | (simp; omega)) (put_rowI (by first | omega | (simp only [List.length_set]; omega))) (by first | exact .here | exact .there (.here) rfl | exact .there (.there (.here) rfl) rfl | exact .there (.there (.there (.here) rfl) rfl) rfl | exact .there (.there (.there (.there (.here) rfl) rfl) rfl) rfl | exact .there (.there (.there (.there (.there (.here) rfl) rfl) rfl) rfl) rfl | exact .there (.there (.there (.there (.there (.there (.here) rfl) rfl) rfl) rfl) rfl) rfl | exact .there (.there (.there (.there (.there (.there (.there (.here) rfl) rfl) rfl) rfl) rfl) rfl) rfl | exact .there (.there (.there (.there (.there (.there (.there (.there (.here) rfl) rfl) rfl) rfl) rfl) rfl) rfl) rfl | exact .there (.there (.there (.there (.there (.there (.there (.there (.there (.here) rfl) rfl) rfl) rfl) rfl) rfl) rfl) rfl) rfl) rfl)) ?_
  refine WD_nil (by kernel_rfl) ?_
  refine W_seq ?_
  refine W_region ?_
  rw [q_end hab hac had hbc hbd hcd, quarter_of hva hvb hvc hvd]
  refine WL_cons hC.fn (.plain rfl (oc_move hC (.tmp rfl) rfl rfl)) ?_
  refine WL_cons hC.fn (.plain rfl (oc_assign hC (.tmp rfl) rfl rfl)) ?_
  refine WL_nil ?_
  refine W_ret ?_
  exact fin1 (.cons (.tmp rfl) .nil) rfl rfl (inSL_I _)
set_option maxRecDepth 20000 in
set_option maxHeartbeats 4000000 in
theorem rwords_c (m l : Nat) (b : List Int) (hl4 : l = 4 * m) (hb : b.length = l) (hb8 : B8 b) (hm : m ≤ 1000) : FnC Try.prog 31 [] [.vs l (I .u8 b)] [] [(0, .row 3 1 m (I .i64 (wordsN b m)))] (.row 0) := by
  refine FnC.introR (N0 := 0) (T := 45) (E := [(0, .vs l (I .u8 b))]) Try.func31 rfl (by decide) mix rfl rfl rfl (by simp) rfl ⟨(by first | exact inSL_I _ | trivial | simp), trivial⟩ (by simp) (by
        intro S ha hr hw
        have s0 : S 0 := hw 0 (by first | (simp; done) | (show some _ ≠ none; simp)) (by first | rfl | simp)
        refine ⟨by first | exact inSL_I _ | simp [s0], fun k b hm => ?_⟩
        simp only [List.mem_cons, Prod.mk.injEq, List.not_mem_nil, or_false] at hm
        rcases hm with ⟨rfl, rfl⟩
        · exact ⟨s0, by first | exact inSL_I _ | simp [s0]⟩) (fun F n0 X w ρ hC hro => ?_)
  refine W_seq ?_
  refine W_region ?_
  refine WL_cons hC.fn (.plain rfl (oc_assign hC .cnils rfl rfl)) ?_
  refine WL_nil ?_
  refine W_seq ?_
  refine W_region ?_
  refine WL_cons hC.fn (.plain rfl (oc_assign hC .cnils rfl rfl)) ?_
  refine WL_nil ?_
  refine W_seq ?_
  refine W_seq ?_
  refine W_region ?_
  refine WL_cons hC.fn (.plain rfl (oc_assign hC .cint rfl rfl)) ?_
  refine WL_nil ?_
  refine W_blk ?_
  refine W_weak (weak_nil (t := 3) (e := 3) (sz := 1) rfl) ?_
  refine W_loopW (fun (ζ : Nat) => ⟨1, [(0, .vs l (I .u8 b)), (3, .row 0), (4, .i .i64 (4 * (ζ : Int)))], [(0, .row 3 1 ζ (I .i64 (wordsN b ζ)))]⟩) (fun ζ => ζ ≤ m) (fun ζ => m - ζ) (0) (Nat.zero_le _) (weak (fun k => k) (.cons rfl (by first | exact ren_agI | exact ren_vsI | exact ren_free _ _ (by first | exact inSL_I _ | simp)) (by first | exact inSL_I _ | simp) (.cons rfl (by first | rfl | simp) (by show _ < _; decide) (.cons rfl rfl trivial .nil))) (.cons rfl (renRow (l' := []) rfl wordsN_zero) rfl (by first | exact inSL_I _ | simp) .nil) rfl rfl rfl) ?_
  intro i hR
  replace hR : i ≤ m := hR
  first | show W _ _ _ ⟨1, [(0, .vs l (I .u8 b)), (3, .row 0), (4, .i .i64 (4 * (i : Int)))], [(0, .row 3 1 i (I .i64 (wordsN b i)))]⟩ | skip
  have h0 := hb8.get (4 * i)
  have h1 := hb8.get (4 * i + 1)
  have h2 := hb8.get (4 * i + 2)
  have h3 := hb8.get (4 * i + 3)
  refine W_seq ?_
  refine W_seq ?_
  refine W_region ?_
  refine WL_cons hC.fn (.plain rfl (oc_move hC (.tmp rfl) rfl rfl)) ?_
  refine WL_cons hC.fn (.plain rfl (oc_bin hC rfl (.tmp rfl) .cint (by first | exact i64_add (by omega) | rfl) rfl rfl)) ?_
  refine WL_cons hC.fn (.plain rfl (oc_move hC (.tmp rfl) rfl rfl)) ?_
  refine WL_cons hC.fn (.plain rfl (ox_len hC (.tmp rfl) (by first | exact .row rfl | exact .vs | exact .sl rfl | exact .nils) Try.underlying24 rfl rfl rfl)) ?_
  refine WL_cons hC.fn (.plain rfl (ox_cmp hC rfl (.tmp rfl) (.tmp rfl) rfl rfl rfl)) ?_
  refine WL_nil ?_
  refine W_cond rfl (by decide) (fun hc => ?_) (fun hc => ?_)
  ·
    replace hc := lss_t hc
    
    refine W_skip ?_
    refine W_seq ?_
    refine W_blk ?_
    refine W_drawD hC ?_
    refine WD_cons (.plain rfl (oc_move hC (.tmp rfl) rfl rfl)) ?_
    refine WD_cons (.plain rfl (oc_move hC (.tmp rfl) rfl rfl)) ?_
    refine WD_cons (.plain rfl (oc_move hC (.tmp rfl) rfl rfl)) ?_
    refine WD_cons (.plain rfl (ox_indexS hC (j := 4 * i) (.tmp rfl) (.tmp rfl) idx_24 (by first | rfl | omega | (simp; omega)) (by first | exact Nat.mul_one _ | rfl) (by first | exact .row rfl | exact .sl (Nat.zero_add _) | exact .sl rfl | exact .vs (by first | omega | (simp <;> fail) | (simp; omega))) (by first | omega | (simp <;> fail) | (simp; omega)) rfl rfl)) ?_
    refine WD_cons (.plain rfl (oc_load hC (.tmp rfl) (by first | exact .p rfl | exact .rp) shp_5 (by exact (unit_I (by first | omega | (simp <;> fail) | (simp; omega)))) rfl rfl)) ?_
    refine WD_cons (.plain rfl (oc_conv hC (.tmp rfl) rfl Try.underlying3 (by first | exact i64_conv (by omega) | rfl) rfl rfl)) ?_
    refine WD_cons (.plain rfl (oc_move hC (.tmp rfl) rfl rfl)) ?_
    refine WD_cons (.plain rfl (oc_move hC (.tmp rfl) rfl rfl)) ?_
    refine WD_cons (.plain rfl (oc_bin hC rfl (.tmp rfl) .cint (by first | exact i64_add (by omega) | rfl) rfl rfl)) ?_
    refine WD_cons (.plain rfl (ox_indexS hC (j := 4 * i + 1) (.tmp rfl) (.tmp rfl) idx_24 (by first | rfl | omega | (simp; omega)) (by first | exact Nat.mul_one _ | rfl) (by first | exact .row rfl | exact .sl (Nat.zero_add _) | exact .sl rfl | exact .vs (by first | omega | (simp <;> fail) | (simp; omega))) (by first | omega | (simp <;> fail) | (simp; omega)) rfl rfl)) ?_
    refine WD_cons (.plain rfl (oc_load hC (.tmp rfl) (by first | exact .p rfl | exact .rp) shp_5 (by exact (unit_I (by first | omega | (simp <;> fail) | (simp; omega)))) rfl rfl)) ?_
    refine WD_cons (.plain rfl (oc_conv hC (.tmp rfl) rfl Try.underlying3 (by first | exact i64_conv (by omega) | rfl) rfl rfl)) ?_
    refine WD_cons (.plain rfl (oc_bin hC rfl (.tmp rfl) .cint (by first | exact i64_mul (by omega) | rfl) rfl rfl)) ?_
    refine WD_cons (.plain rfl (oc_bin hC rfl (.tmp rfl) (.tmp rfl) (by first | exact i64_add (by omega) | rfl) rfl rfl)) ?_
    refine WD_cons (.plain rfl (oc_move hC (.tmp rfl) rfl rfl)) ?_
    refine WD_cons (.plain rfl (oc_move hC (.tmp rfl) rfl rfl)) ?_
    refine WD_cons (.plain rfl (oc_bin hC rfl (.tmp rfl) .cint (by first | exact i64_add (by omega) | rfl) rfl rfl)) ?_
    refine WD_cons (.plain rfl (ox_indexS hC (j := 4 * i + 2) (.tmp rfl) (.tmp rfl) idx_24 (by first | rfl | omega | (simp; omega)) (by first | exact Nat.mul_one _ | rfl) (by first | exact .row rfl | exact .sl (Nat.zero_add _) | exact .sl rfl | exact .vs (by first | omega | (simp <;> fail) | (simp; omega))) (by first | omega | (simp <;> fail) | (simp; omega)) rfl rfl)) ?_
    refine WD_cons (.plain rfl (oc_load hC (.tmp rfl) (by first | exact .p rfl | exact .rp) shp_5 (by exact (unit_I (by first | omega | (simp <;> fail) | (simp; omega)))) rfl rfl)) ?_
    refine WD_cons (.plain rfl (oc_conv hC (.tmp rfl) rfl Try.underlying3 (by first | exact i64_conv (by omega) | rfl) rfl rfl)) ?_
    refine WD_cons (.plain rfl (oc_bin hC rfl (.tmp rfl) .cint (by first | exact i64_mul (by omega) | rfl) rfl rfl)) ?_
    refine WD_cons (.plain rfl (oc_bin hC rfl (.tmp rfl) (.tmp rfl) (by first | exact i64_add (by omega) | rfl) rfl rfl)) ?_
    refine WD_cons (.plain rfl (oc_move hC (.tmp rfl) rfl rfl)) ?_
    refine WD_cons (.plain rfl (oc_move hC (.tmp rfl) rfl rfl)) ?_
    refine WD_cons (.plain rfl (oc_bin hC rfl (.tmp rfl) .cint (by first | exact i64_add (by omega) | rfl) rfl rfl)) ?_
    refine WD_cons (.plain rfl (ox_indexS hC (j := 4 * i + 3) (.tmp rfl) (.tmp rfl) idx_24 (by first | rfl | omega | (simp; omega)) (by first | exact Nat.mul_one _ | rfl) (by first | exact .row rfl | exact .sl (Nat.zero_add _) | exact .sl rfl | exact .vs (by first | omega | (simp <;> fail) | (simp; omega))) (by first | omega | (simp <;> fail) | (simp; omega)) rfl rfl)) ?_
    refine WD_cons (.plain rfl (oc_load hC (.tmp rfl) (by first | exact .p rfl | exact .rp) shp_5 (by exact (unit_I (by first | omega | (simp <;> fail) | (simp; omega)))) rfl rfl)) ?_
    refine WD_cons (.plain rfl (oc_conv hC (.tmp rfl) rfl Try.underlying3 (by first | exact i64_conv (by omega) | rfl) rfl rfl)) ?_
    refine WD_cons (.plain rfl (oc_bin hC rfl (.tmp rfl) .cint (by first | exact i64_mul (by omega) | rfl) rfl rfl)) ?_
    refine WD_cons (.plain rfl (oc_bin hC rfl (.tmp rfl) (.tmp rfl) (r := le4 b (4 * i)) (by rw [i64_add (by omega)]; unfold le4; rfl) rfl rfl)) ?_
    refine WD_cons (.plain rfl (ox_lit hC (.cons (.tmp rfl) .nil) Try.underlying52 cells_3 zero_3 rfl (by decide) rfl rfl (by first | rfl | simp) rfl rfl)) ?_
    refine WD_cons (.plain rfl (ox_append hC (.tmp rfl) (.tmp rfl) (by first | exact .row rfl rfl (by first | exact .here rfl | exact .there (.here rfl) rfl | exact .there (.there (.here rfl) rfl) rfl | exact .there (.there (.there (.here rfl) rfl) rfl) rfl | exact .there (.there (.there (.there (.here rfl) rfl) rfl) rfl) rfl | exact .there (.there (.there (.there (.there (.here rfl) rfl) rfl) rfl) rfl) rfl | exact .there (.there (.there (.there (.there (.there (.here rfl) rfl) rfl) rfl) rfl) rfl) rfl | exact .there (.there (.there (.there (.there (.there (.there (.here rfl) rfl) rfl) rfl) rfl) rfl) rfl) rfl | exact .there (.there (.there (.there (.there (.there (.there (.there (.here rfl) rfl) rfl) rfl) rfl) rfl) rfl) rfl) rfl | exact .there (.there (.there (.there (.there (.there (.there (.there (.there (.here rfl) rfl) rfl) rfl) rfl) rfl) rfl) rfl) rfl) rfl | exact .there (.there (.there (.there (.there (.there (.there (.there (.there (.there (.here rfl) rfl) rfl) rfl) rfl) rfl) rfl) rfl) rfl) rfl) rfl | exact .there (.there (.there (.there (.there (.there (.there (.there (.there (.there (.there (.here rfl) rfl) rfl) rfl) rfl) rfl) rfl) rfl) rfl) rfl) rfl) rfl | exact .there (.there (.there (.there (.there (.there (.there (.there (.there (.there (.there (.there (.here rfl) rfl) rfl) rfl) rfl) rfl) rfl) rfl) rfl) rfl) rfl) rfl) rfl | exact .there (.there (.there (.there (.there (.there (.there (.there (.there (.there (.there (.there (.there (.here rfl) rfl) rfl) rfl) rfl) rfl) rfl) rfl) rfl) rfl) rfl) rfl) rfl) rfl | exact .there (.there (.there (.there (.there (.there (.there (.there (.there (.there (.there (.there (.there (.there (.here rfl) rfl) rfl) rfl) rfl) rfl) rfl) rfl) rfl) rfl) rfl) rfl) rfl) rfl) rfl | exact .there (.there (.there (.there (.there (.there (.there (.there (.there (.there (.there (.there (.there (.there (.there (.here rfl) rfl) rfl) rfl) rfl) rfl) rfl) rfl) rfl) rfl) rfl) rfl) rfl) rfl) rfl) rfl) | exact .nils) (by first | exact .row rfl | exact .vs | exact .sl rfl | exact .nils) (by first | exact hro_nil | exact hro_one rfl) Try.underlying52 cells_3 bytes_3 zero_3 rfl (by decide) (by first | (simp <;> fail) | (simp; omega)) (by first | rfl | exact one_takeI) (by first | rfl | (simp <;> fail) | (simp; omega)) app_1 (by simp only [maxLen]; omega) (by omega) rfl rfl)) ?_
    refine WD_cons (.plain rfl (oc_assign hC (.tmp rfl) rfl rfl)) ?_
    refine WD_nil (by kernel_rfl) ?_
    refine W_region ?_
    refine WL_cons hC.fn (.plain rfl (oc_move hC (.tmp rfl) rfl rfl)) ?_
    refine WL_cons hC.fn (.plain rfl (oc_bin hC rfl (.tmp rfl) .cint (by first | exact i64_add (by omega) | rfl) rfl rfl)) ?_
    refine WL_cons hC.fn (.plain rfl (oc_assign hC (.tmp rfl) rfl rfl)) ?_
    refine WL_nil ?_
    exact ⟨(i + 1), (by omega), (weak (fun k => bif Nat.beq k 0 then 1 else k) (.cons rfl (by first | exact ren_agI | exact ren_vsI | exact ren_free _ _ (by first | exact inSL_I _ | simp)) (by first | exact inSL_I _ | simp) (.cons rfl (by first | rfl | simp) (by show _ < _; decide) (.cons rfl (congrArg (AV.i _) (by omega)) trivial .nil))) (.cons rfl (renRow rfl wordsN_succ) rfl (by first | exact inSL_I _ | simp) .nil) rfl rfl rfl), (by omega)⟩
  ·
    replace hc := lss_f hc
    obtain rfl : i = m := by omega
    refine W_exit ?_
    refine W_seq ?_
    refine W_region ?_
    refine WL_cons hC.fn (.plain rfl (oc_move hC (.tmp rfl) rfl rfl)) ?_
    refine WL_cons hC.fn (.plain rfl (oc_assign hC (.tmp rfl) rfl rfl)) ?_
    refine WL_nil ?_
    refine W_ret ?_
    exact fin1 (.cons (.tmp rfl) .nil) rfl rfl (inSL_I _)
set_option maxRecDepth 20000 in
set_option maxHeartbeats 4000000 in
theorem rblock_c (key nonce : List Int) (n : Int) (hk : key.length = 32) (hnc : nonce.length = 12) (hk8 : B8 key) (hc8 : B8 nonce) (hn : 0 ≤ n ∧ n < 4294967296) : FnC Try.prog 19 [] [.vs 32 (I .u8 key), .i .i64 n, .vs 12 (I .u8 nonce)] [] [(0, .row 5 1 64 (I .u8 (blkM key n nonce)))] (.row 0) := by
  have hlF := length_firstM key n nonce
  have hwF := W32_first hk8 hc8 hn
  refine FnC.introR (N0 := 0) (T := 79) (E := [(0, .vs 32 (I .u8 key)), (1, .i .i64 n), (2, .vs 12 (I .u8 nonce))]) Try.func19 rfl (by decide) mix rfl rfl rfl (by simp) rfl ⟨(by first | exact inSL_I _ | trivial | simp), (by first | exact inSL_I _ | trivial | simp), (by first | exact inSL_I _ | trivial | simp), trivial⟩ (by simp) (by
        intro S ha hr hw
        have s0 : S 0 := hw 0 (by first | (simp; done) | (show some _ ≠ none; simp)) (by first | rfl | simp)
        refine ⟨by first | exact inSL_I _ | simp [s0], fun k b hm => ?_⟩
        simp only [List.mem_cons, Prod.mk.injEq, List.not_mem_nil, or_false] at hm
        rcases hm with ⟨rfl, rfl⟩
        · exact ⟨s0, by first | exact inSL_I _ | simp [s0]⟩) (fun F n0 X w ρ hC hro => ?_)
  refine W_seq ?_
  refine W_region ?_
  refine WL_cons hC.fn (.plain rfl (oc_assign hC .cnils rfl rfl)) ?_
  refine WL_nil ?_
  refine W_seq ?_
  refine W_region ?_
  refine WL_cons hC.fn (.plain rfl (ox_litRI (k := .i64) (ws := [1634760805, 857760878, 2036477234, 1797285236]) hC (.cons .cint (.cons .cint (.cons .cint (.cons .cint .nil)))) Try.underlying52 cells_3 zero_3 rfl (by decide) rfl rfl (by first | rfl | simp) rfl rfl rfl)) ?_
  refine WL_cons hC.fn (.plain rfl (oc_assign hC (.tmp rfl) rfl rfl)) ?_
  refine WL_nil ?_
  refine W_seq ?_
  refine W_region ?_
  refine WL_cons hC.fn (.plain rfl (oc_move hC (.tmp rfl) rfl rfl)) ?_
  refine WL_cons hC.fn (.plain rfl (oc_move hC (.tmp rfl) rfl rfl)) ?_
  refine WL_cons hC.fn (.plain rfl (oc_callN hC (.cons (.tmp rfl) .nil) (.cons1 (by first | exact .free (by first | exact inSL_I _ | simp) | exact .row rfl rfl (by first | exact inSL_I _ | simp) | exact .nils | exact .sl1 rfl (by first | exact cut_I | rfl) (by first | exact inSL_I _ | simp)) (.same (by first | exact inSL_I _ | simp))) (rwords_c 8 32 key rfl hk hk8 (by decide)) glob_nil (by first | exact inSL_I _ | simp) rfl (by first | exact .inl rfl | exact .inr ⟨by simp, novsL_I _⟩ | exact .inr ⟨by simp, by simp⟩) rfl rfl)) ?_
  refine WL_cons hC.fn (.plain rfl (ox_append (n' := 12) (cs' := I .i64 (first0 ++ wordsN key 8)) hC (.tmp rfl) (.tmp rfl) (by first | exact .row rfl rfl (by first | exact .here rfl | exact .there (.here rfl) rfl | exact .there (.there (.here rfl) rfl) rfl | exact .there (.there (.there (.here rfl) rfl) rfl) rfl | exact .there (.there (.there (.there (.here rfl) rfl) rfl) rfl) rfl | exact .there (.there (.there (.there (.there (.here rfl) rfl) rfl) rfl) rfl) rfl | exact .there (.there (.there (.there (.there (.there (.here rfl) rfl) rfl) rfl) rfl) rfl) rfl | exact .there (.there (.there (.there (.there (.there (.there (.here rfl) rfl) rfl) rfl) rfl) rfl) rfl) rfl | exact .there (.there (.there (.there (.there (.there (.there (.there (.here rfl) rfl) rfl) rfl) rfl) rfl) rfl) rfl) rfl | exact .there (.there (.there (.there (.there (.there (.there (.there (.there (.here rfl) rfl) rfl) rfl) rfl) rfl) rfl) rfl) rfl) rfl | exact .there (.there (.there (.there (.there (.there (.there (.there (.there (.there (.here rfl) rfl) rfl) rfl) rfl) rfl) rfl) rfl) rfl) rfl) rfl | exact .there (.there (.there (.there (.there (.there (.there (.there (.there (.there (.there (.here rfl) rfl) rfl) rfl) rfl) rfl) rfl) rfl) rfl) rfl) rfl) rfl | exact .there (.there (.there (.there (.there (.there (.there (.there (.there (.there (.there (.there (.here rfl) rfl) rfl) rfl) rfl) rfl) rfl) rfl) rfl) rfl) rfl) rfl) rfl | exact .there (.there (.there (.there (.there (.there (.there (.there (.there (.there (.there (.there (.there (.here rfl) rfl) rfl) rfl) rfl) rfl) rfl) rfl) rfl) rfl) rfl) rfl) rfl) rfl | exact .there (.there (.there (.there (.there (.there (.there (.there (.there (.there (.there (.there (.there (.there (.here rfl) rfl) rfl) rfl) rfl) rfl) rfl) rfl) rfl) rfl) rfl) rfl) rfl) rfl) rfl | exact .there (.there (.there (.there (.there (.there (.there (.there (.there (.there (.there (.there (.there (.there (.there (.here rfl) rfl) rfl) rfl) rfl) rfl) rfl) rfl) rfl) rfl) rfl) rfl) rfl) rfl) rfl) rfl) | exact .nils) (by first | exact .row rfl | exact .vs | exact .sl rfl | exact .nils) (by first | exact hro_nil | exact hro_one rfl) Try.underlying52 cells_3 bytes_3 zero_3 rfl (by decide) (by rw [length_I, length_wordsN]; decide) (by first | rfl | exact one_takeI) rfl (app_I (us := first0) (length_wordsN _ _)) (by simp only [maxLen]; omega) (by omega) rfl rfl)) ?_
  refine WL_cons hC.fn (.plain rfl (oc_assign hC (.tmp rfl) rfl rfl)) ?_
  refine WL_nil ?_
  refine W_seq ?_
  refine W_region ?_
  refine WL_cons hC.fn (.plain rfl (oc_move hC (.tmp rfl) rfl rfl)) ?_
  refine WL_cons hC.fn (.plain rfl (oc_move hC (.tmp rfl) rfl rfl)) ?_
  refine WL_cons hC.fn (.plain rfl (ox_lit hC (.cons (.tmp rfl) .nil) Try.underlying52 cells_3 zero_3 rfl (by decide) rfl rfl (by first | rfl | simp) rfl rfl)) ?_
  refine WL_cons hC.fn (.plain rfl (ox_append (n' := 13) (cs' := I .i64 (first0 ++ wordsN key 8 ++ [n])) hC (.tmp rfl) (.tmp rfl) (by first | exact .row rfl rfl (by first | exact .here rfl | exact .there (.here rfl) rfl | exact .there (.there (.here rfl) rfl) rfl | exact .there (.there (.there (.here rfl) rfl) rfl) rfl | exact .there (.there (.there (.there (.here rfl) rfl) rfl) rfl) rfl | exact .there (.there (.there (.there (.there (.here rfl) rfl) rfl) rfl) rfl) rfl | exact .there (.there (.there (.there (.there (.there (.here rfl) rfl) rfl) rfl) rfl) rfl) rfl | exact .there (.there (.there (.there (.there (.there (.there (.here rfl) rfl) rfl) rfl) rfl) rfl) rfl) rfl | exact .there (.there (.there (.there (.there (.there (.there (.there (.here rfl) rfl) rfl) rfl) rfl) rfl) rfl) rfl) rfl | exact .there (.there (.there (.there (.there (.there (.there (.there (.there (.here rfl) rfl) rfl) rfl) rfl) rfl) rfl) rfl) rfl) rfl | exact .there (.there (.there (.there (.there (.there (.there (.there (.there (.there (.here rfl) rfl) rfl) rfl) rfl) rfl) rfl) rfl) rfl) rfl) rfl | exact .there (.there (.there (.there (.there (.there (.there (.there (.there (.there (.there (.here rfl) rfl) rfl) rfl) rfl) rfl) rfl) rfl) rfl) rfl) rfl) rfl | exact .there (.there (.there (.there (.there (.there (.there (.there (.there (.there (.there (.there (.here rfl) rfl) rfl) rfl) rfl) rfl) rfl) rfl) rfl) rfl) rfl) rfl) rfl | exact .there (.there (.there (.there (.there (.there (.there (.there (.there (.there (.there (.there (.there (.here rfl) rfl) rfl) rfl) rfl) rfl) rfl) rfl) rfl) rfl) rfl) rfl) rfl) rfl | exact .there (.there (.there (.there (.there (.there (.there (.there (.there (.there (.there (.there (.there (.there (.here rfl) rfl) rfl) rfl) rfl) rfl) rfl) rfl) rfl) rfl) rfl) rfl) rfl) rfl) rfl | exact .there (.there (.there (.there (.there (.there (.there (.there (.there (.there (.there (.there (.there (.there (.there (.here rfl) rfl) rfl) rfl) rfl) rfl) rfl) rfl) rfl) rfl) rfl) rfl) rfl) rfl) rfl) rfl) | exact .nils) (by first | exact .row rfl | exact .vs | exact .sl rfl | exact .nils) (by first | exact hro_nil | exact hro_one rfl) Try.underlying52 cells_3 bytes_3 zero_3 rfl (by decide) (by first | (simp <;> fail) | (simp; omega)) (by first | rfl | exact one_takeI) rfl app_1 (by simp only [maxLen]; omega) (by omega) rfl rfl)) ?_
  refine WL_cons hC.fn (.plain rfl (oc_assign hC (.tmp rfl) rfl rfl)) ?_
  refine WL_nil ?_
  refine W_seq ?_
  refine W_region ?_
  refine WL_cons hC.fn (.plain rfl (oc_move hC (.tmp rfl) rfl rfl)) ?_
  refine WL_cons hC.fn (.plain rfl (oc_move hC (.tmp rfl) rfl rfl)) ?_
  refine WL_cons hC.fn (.plain rfl (oc_callN hC (.cons (.tmp rfl) .nil) (.cons1 (by first | exact .free (by first | exact inSL_I _ | simp) | exact .row rfl rfl (by first | exact inSL_I _ | simp) | exact .nils | exact .sl1 rfl (by first | exact cut_I | rfl) (by first | exact inSL_I _ | simp)) (.same (by first | exact inSL_I _ | simp))) (rwords_c 3 12 nonce rfl hnc hc8 (by decide)) glob_nil (by first | exact inSL_I _ | simp) rfl (by first | exact .inl rfl | exact .inr ⟨by simp, novsL_I _⟩ | exact .inr ⟨by simp, by simp⟩) rfl rfl)) ?_
  refine WL_cons hC.fn (.plain rfl (ox_append (n' := 16) (cs' := I .i64 (firstM key n nonce)) hC (.tmp rfl) (.tmp rfl) (by first | exact .row rfl rfl (by first | exact .here rfl | exact .there (.here rfl) rfl | exact .there (.there (.here rfl) rfl) rfl | exact .there (.there (.there (.here rfl) rfl) rfl) rfl | exact .there (.there (.there (.there (.here rfl) rfl) rfl) rfl) rfl | exact .there (.there (.there (.there (.there (.here rfl) rfl) rfl) rfl) rfl) rfl | exact .there (.there (.there (.there (.there (.there (.here rfl) rfl) rfl) rfl) rfl) rfl) rfl | exact .there (.there (.there (.there (.there (.there (.there (.here rfl) rfl) rfl) rfl) rfl) rfl) rfl) rfl | exact .there (.there (.there (.there (.there (.there (.there (.there (.here rfl) rfl) rfl) rfl) rfl) rfl) rfl) rfl) rfl | exact .there (.there (.there (.there (.there (.there (.there (.there (.there (.here rfl) rfl) rfl) rfl) rfl) rfl) rfl) rfl) rfl) rfl | exact .there (.there (.there (.there (.there (.there (.there (.there (.there (.there (.here rfl) rfl) rfl) rfl) rfl) rfl) rfl) rfl) rfl) rfl) rfl | exact .there (.there (.there (.there (.there (.there (.there (.there (.there (.there (.there (.here rfl) rfl) rfl) rfl) rfl) rfl) rfl) rfl) rfl) rfl) rfl) rfl | exact .there (.there (.there (.there (.there (.there (.there (.there (.there (.there (.there (.there (.here rfl) rfl) rfl) rfl) rfl) rfl) rfl) rfl) rfl) rfl) rfl) rfl) rfl | exact .there (.there (.there (.there (.there (.there (.there (.there (.there (.there (.there (.there (.there (.here rfl) rfl) rfl) rfl) rfl) rfl) rfl) rfl) rfl) rfl) rfl) rfl) rfl) rfl | exact .there (.there (.there (.there (.there (.there (.there (.there (.there (.there (.there (.there (.there (.there (.here rfl) rfl) rfl) rfl) rfl) rfl) rfl) rfl) rfl) rfl) rfl) rfl) rfl) rfl) rfl | exact .there (.there (.there (.there (.there (.there (.there (.there (.there (.there (.there (.there (.there (.there (.there (.here rfl) rfl) rfl) rfl) rfl) rfl) rfl) rfl) rfl) rfl) rfl) rfl) rfl) rfl) rfl) rfl) | exact .nils) (by first | exact .row rfl | exact .vs | exact .sl rfl | exact .nils) (by first | exact hro_nil | exact hro_one rfl) Try.underlying52 cells_3 bytes_3 zero_3 rfl (by decide) (by rw [length_I, length_wordsN]; decide) (by first | rfl | exact one_takeI) rfl ((app_I (length_wordsN _ _)).trans (by unfold firstM; rfl)) (by simp only [maxLen]; omega) (by omega) rfl rfl)) ?_
  refine WL_cons hC.fn (.plain rfl (oc_assign hC (.tmp rfl) rfl rfl)) ?_
  refine WL_weak (weak_sl (t := 7) rfl rfl) ?_
  refine WL_weak (weak_slv (t := 7) (us := I .i64 (firstM key n nonce)) rfl rfl (.here rfl) (by rw [length_I, hlF, List.drop_zero]; exact take_allI hlF) (by intro _; decide) (inSL_I _)) ?_
  refine WL_nil ?_
  refine W_seq ?_
  refine W_region ?_
  refine WL_cons hC.fn (.plain rfl (oc_move hC (.tmp rfl) rfl rfl)) ?_
  refine WL_cons hC.fn (.plain rfl (oc_assign hC (.tmp rfl) rfl rfl)) ?_
  refine WL_nil ?_
  refine W_seq ?_
  refine W_seq ?_
  refine W_region ?_
  refine WL_cons hC.fn (.plain rfl (oc_assign hC .cint rfl rfl)) ?_
  refine WL_nil ?_
  refine W_blk ?_
  refine W_loopW (fun (ζ : Nat) => ⟨0, [(7, .vs 16 (I .i64 (firstM key n nonce))), (8, .vs 16 (I .i64 (cha (firstM key n nonce) ζ))), (9, .i .i64 ζ)], []⟩) (fun ζ => ζ ≤ 10) (fun ζ => 10 - ζ) (0) (by simp) (weak (fun k => k) (.cons rfl (by first | exact ren_agI | exact ren_vsI | exact ren_free _ _ (by first | exact inSL_I _ | simp)) (by first | exact inSL_I _ | simp) (.cons rfl (ren_vsI.trans (by rw [cha_zero])) (by first | exact inSL_I _ | simp) (.cons rfl rfl trivial .nil))) .nil rfl rfl rfl) ?_
  intro k hR
  replace hR : k ≤ 10 := hR
  first | show W _ _ _ ⟨0, [(7, .vs 16 (I .i64 (firstM key n nonce))), (8, .vs 16 (I .i64 (cha (firstM key n nonce) k))), (9, .i .i64 k)], []⟩ | skip
  have hl0 : (cha (firstM key n nonce) k).length = 16 := (length_cha _ _).trans hlF
  have hw0 := W32_cha hwF k
  refine W_seq ?_
  refine W_seq ?_
  refine W_region ?_
  refine WL_cons hC.fn (.plain rfl (oc_move hC (.tmp rfl) rfl rfl)) ?_
  refine WL_cons hC.fn (.plain rfl (ox_cmp hC rfl (.tmp rfl) .cint rfl rfl rfl)) ?_
  refine WL_nil ?_
  refine W_cond rfl (by decide) (fun hc => ?_) (fun hc => ?_)
  ·
    replace hc := lss_t hc
    
    refine W_skip ?_
    refine W_seq ?_
    refine W_blk ?_
    refine W_seq ?_
    refine W_region ?_
    refine WL_cons hC.fn (.plain rfl (oc_move hC (.tmp rfl) rfl rfl)) ?_
    refine WL_cons hC.fn (.plain rfl (oc_callN hC (.cons (.tmp rfl) (.cons .cint (.cons .cint (.cons .cint (.cons .cint .nil))))) (.cons1 (by first | exact .free (by first | exact inSL_I _ | simp) | exact .row rfl rfl (by first | exact inSL_I _ | simp) | exact .nils | exact .sl1 rfl (by first | exact cut_I | rfl) (by first | exact inSL_I _ | simp)) (.cons1 (.free (by first | exact inSL_I _ | simp)) (.cons1 (.free (by first | exact inSL_I _ | simp)) (.cons1 (.free (by first | exact inSL_I _ | simp)) (.cons1 (.free (by first | exact inSL_I _ | simp)) (.same (by first | exact inSL_I _ | simp))))))) (rquarter_c 16 0 4 8 12 (cha (firstM key n nonce) k) hl0 hw0 (by decide) (by decide) (by decide) (by decide) (by decide) (by decide) (by decide) (by decide) (by decide) (by decide) (by decide)) glob_nil (by first | exact inSL_I _ | simp) rfl (by first | exact .inl rfl | exact .inr ⟨by simp, novsL_I _⟩ | exact .inr ⟨by simp, by simp⟩) rfl rfl)) ?_
    have hl1 := (length_quarterL (cha (firstM key n nonce) k) 0 4 8 12).trans hl0
    have hw1 := W32_quarterL hw0 0 4 8 12
    refine WL_cons hC.fn (.plain rfl (oc_assign hC (.tmp rfl) rfl rfl)) ?_
    refine WL_nil ?_
    refine W_seq ?_
    refine W_region ?_
    refine WL_cons hC.fn (.plain rfl (oc_move hC (.tmp rfl) rfl rfl)) ?_
    refine WL_cons hC.fn (.plain rfl (oc_callN hC (.cons (.tmp rfl) (.cons .cint (.cons .cint (.cons .cint (.cons .cint .nil))))) (.cons1 (by first | exact .free (by first | exact inSL_I _ | simp) | exact .row rfl rfl (by first | exact inSL_I _ | simp) | exact .nils | exact .sl1 rfl (by first | exact cut_I | rfl) (by first | exact inSL_I _ | simp)) (.cons1 (.free (by first | exact inSL_I _ | simp)) (.cons1 (.free (by first | exact inSL_I _ | simp)) (.cons1 (.free (by first | exact inSL_I _ | simp)) (.cons1 (.free (by first | exact inSL_I _ | simp)) (.same (by first | exact inSL_I _ | simp))))))) (rquarter_c 16 1 5 9 13 (quarterL (cha (firstM key n nonce) k) 0 4 8 12) hl1 hw1 (by decide) (by decide) (by decide) (by decide) (by decide) (by decide) (by decide) (by decide) (by decide) (by decide) (by decide)) glob_nil (by first | exact inSL_I _ | simp) rfl (by first | exact .inl rfl | exact .inr ⟨by simp, novsL_I _⟩ | exact .inr ⟨by simp, by simp⟩) rfl rfl)) ?_
    have hl2 := (length_quarterL (quarterL (cha (firstM key n nonce) k) 0 4 8 12) 1 5 9 13).trans hl1
    have hw2 := W32_quarterL hw1 1 5 9 13
    refine WL_cons hC.fn (.plain rfl (oc_assign hC (.tmp rfl) rfl rfl)) ?_
    refine WL_nil ?_
    refine W_seq ?_
    refine W_region ?_
    refine WL_cons hC.fn (.plain rfl (oc_move hC (.tmp rfl) rfl rfl)) ?_
    refine WL_cons hC.fn (.plain rfl (oc_callN hC (.cons (.tmp rfl) (.cons .cint (.cons .cint (.cons .cint (.cons .cint .nil))))) (.cons1 (by first | exact .free (by first | exact inSL_I _ | simp) | exact .row rfl rfl (by first | exact inSL_I _ | simp) | exact .nils | exact .sl1 rfl (by first | exact cut_I | rfl) (by first | exact inSL_I _ | simp)) (.cons1 (.free (by first | exact inSL_I _ | simp)) (.cons1 (.free (by first | exact inSL_I _ | simp)) (.cons1 (.free (by first | exact inSL_I _ | simp)) (.cons1 (.free (by first | exact inSL_I _ | simp)) (.same (by first | exact inSL_I _ | simp))))))) (rquarter_c 16 2 6 10 14 (quarterL (quarterL (cha (firstM key n nonce) k) 0 4 8 12) 1 5 9 13) hl2 hw2 (by decide) (by decide) (by decide) (by decide) (by decide) (by decide) (by decide) (by decide) (by decide) (by decide) (by decide)) glob_nil (by first | exact inSL_I _ | simp) rfl (by first | exact .inl rfl | exact .inr ⟨by simp, novsL_I _⟩ | exact .inr ⟨by simp, by simp⟩) rfl rfl)) ?_
    have hl3 := (length_quarterL (quarterL (quarterL (cha (firstM key n nonce) k) 0 4 8 12) 1 5 9 13) 2 6 10 14).trans hl2
    have hw3 := W32_quarterL hw2 2 6 10 14
    refine WL_cons hC.fn (.plain rfl (oc_assign hC (.tmp rfl) rfl rfl)) ?_
    refine WL_nil ?_
    refine W_seq ?_
    refine W_region ?_
    refine WL_cons hC.fn (.plain rfl (oc_move hC (.tmp rfl) rfl rfl)) ?_
    refine WL_cons hC.fn (.plain rfl (oc_callN hC (.cons (.tmp rfl) (.cons .cint (.cons .cint (.cons .cint (.cons .cint .nil))))) (.cons1 (by first | exact .free (by first | exact inSL_I _ | simp) | exact .row rfl rfl (by first | exact inSL_I _ | simp) | exact .nils | exact .sl1 rfl (by first | exact cut_I | rfl) (by first | exact inSL_I _ | simp)) (.cons1 (.free (by first | exact inSL_I _ | simp)) (.cons1 (.free (by first | exact inSL_I _ | simp)) (.cons1 (.free (by first | exact inSL_I _ | simp)) (.cons1 (.free (by first | exact inSL_I _ | simp)) (.same (by first | exact inSL_I _ | simp))))))) (rquarter_c 16 3 7 11 15 (quarterL (quarterL (quarterL (cha (firstM key n nonce) k) 0 4 8 12) 1 5 9 13) 2 6 10 14) hl3 hw3 (by decide) (by decide) (by decide) (by decide) (by decide) (by decide) (by decide) (by decide) (by decide) (by decide) (by decide)) glob_nil (by first | exact inSL_I _ | simp) rfl (by first | exact .inl rfl | exact .inr ⟨by simp, novsL_I _⟩ | exact .inr ⟨by simp, by simp⟩) rfl rfl)) ?_
    have hl4 := (length_quarterL (quarterL (quarterL (quarterL (cha (firstM key n nonce) k) 0 4 8 12) 1 5 9 13) 2 6 10 14) 3 7 11 15).trans hl3
    have hw4 := W32_quarterL hw3 3 7 11 15
    refine WL_cons hC.fn (.plain rfl (oc_assign hC (.tmp rfl) rfl rfl)) ?_
    refine WL_nil ?_
    refine W_seq ?_
    refine W_region ?_
    refine WL_cons hC.fn (.plain rfl (oc_move hC (.tmp rfl) rfl rfl)) ?_
    refine WL_cons hC.fn (.plain rfl (oc_callN hC (.cons (.tmp rfl) (.cons .cint (.cons .cint (.cons .cint (.cons .cint .nil))))) (.cons1 (by first | exact .free (by first | exact inSL_I _ | simp) | exact .row rfl rfl (by first | exact inSL_I _ | simp) | exact .nils | exact .sl1 rfl (by first | exact cut_I | rfl) (by first | exact inSL_I _ | simp)) (.cons1 (.free (by first | exact inSL_I _ | simp)) (.cons1 (.free (by first | exact inSL_I _ | simp)) (.cons1 (.free (by first | exact inSL_I _ | simp)) (.cons1 (.free (by first | exact inSL_I _ | simp)) (.same (by first | exact inSL_I _ | simp))))))) (rquarter_c 16 0 5 10 15 (quarterL (quarterL (quarterL (quarterL (cha (firstM key n nonce) k) 0 4 8 12) 1 5 9 13) 2 6 10 14) 3 7 11 15) hl4 hw4 (by decide) (by decide) (by decide) (by decide) (by decide) (by decide) (by decide) (by decide) (by decide) (by decide) (by decide)) glob_nil (by first | exact inSL_I _ | simp) rfl (by first | exact .inl rfl | exact .inr ⟨by simp, novsL_I _⟩ | exact .inr ⟨by simp, by simp⟩) rfl rfl)) ?_
    have hl5 := (length_quarterL (quarterL (quarterL (quarterL (quarterL (cha (firstM key n nonce) k) 0 4 8 12) 1 5 9 13) 2 6 10 14) 3 7 11 15) 0 5 10 15).trans hl4
    have hw5 := W32_quarterL hw4 0 5 10 15
    refine WL_cons hC.fn (.plain rfl (oc_assign hC (.tmp rfl) rfl rfl)) ?_
    refine WL_nil ?_
    refine W_seq ?_
    refine W_region ?_
    refine WL_cons hC.fn (.plain rfl (oc_move hC (.tmp rfl) rfl rfl)) ?_
    refine WL_cons hC.fn (.plain rfl (oc_callN hC (.cons (.tmp rfl) (.cons .cint (.cons .cint (.cons .cint (.cons .cint .nil))))) (.cons1 (by first | exact .free (by first | exact inSL_I _ | simp) | exact .row rfl rfl (by first | exact inSL_I _ | simp) | exact .nils | exact .sl1 rfl (by first | exact cut_I | rfl) (by first | exact inSL_I _ | simp)) (.cons1 (.free (by first | exact inSL_I _ | simp)) (.cons1 (.free (by first | exact inSL_I _ | simp)) (.cons1 (.free (by first | exact inSL_I _ | simp)) (.cons1 (.free (by first | exact inSL_I _ | simp)) (.same (by first | exact inSL_I _ | simp))))))) (rquarter_c 16 1 6 11 12 (quarterL (quarterL (quarterL (quarterL (quarterL (cha (firstM key n nonce) k) 0 4 8 12) 1 5 9 13) 2 6 10 14) 3 7 11 15) 0 5 10 15) hl5 hw5 (by decide) (by decide) (by decide) (by decide) (by decide) (by decide) (by decide) (by decide) (by decide) (by decide) (by decide)) glob_nil (by first | exact inSL_I _ | simp) rfl (by first | exact .inl rfl | exact .inr ⟨by simp, novsL_I _⟩ | exact .inr ⟨by simp, by simp⟩) rfl rfl)) ?_
    have hl6 := (length_quarterL (quarterL (quarterL (quarterL (quarterL (quarterL (cha (firstM key n nonce) k) 0 4 8 12) 1 5 9 13) 2 6 10 14) 3 7 11 15) 0 5 10 15) 1 6 11 12).trans hl5
    have hw6 := W32_quarterL hw5 1 6 11 12
    refine WL_cons hC.fn (.plain rfl (oc_assign hC (.tmp rfl) rfl rfl)) ?_
    refine WL_nil ?_
    refine W_seq ?_
    refine W_region ?_
    refine WL_cons hC.fn (.plain rfl (oc_move hC (.tmp rfl) rfl rfl)) ?_
    refine WL_cons hC.fn (.plain rfl (oc_callN hC (.cons (.tmp rfl) (.cons .cint (.cons .cint (.cons .cint (.cons .cint .nil))))) (.cons1 (by first | exact .free (by first | exact inSL_I _ | simp) | exact .row rfl rfl (by first | exact inSL_I _ | simp) | exact .nils | exact .sl1 rfl (by first | exact cut_I | rfl) (by first | exact inSL_I _ | simp)) (.cons1 (.free (by first | exact inSL_I _ | simp)) (.cons1 (.free (by first | exact inSL_I _ | simp)) (.cons1 (.free (by first | exact inSL_I _ | simp)) (.cons1 (.free (by first | exact inSL_I _ | simp)) (.same (by first | exact inSL_I _ | simp))))))) (rquarter_c 16 2 7 8 13 (quarterL (quarterL (quarterL (quarterL (quarterL (quarterL (cha (firstM key n nonce) k) 0 4 8 12) 1 5 9 13) 2 6 10 14) 3 7 11 15) 0 5 10 15) 1 6 11 12) hl6 hw6 (by decide) (by decide) (by decide) (by decide) (by decide) (by decide) (by decide) (by decide) (by decide) (by decide) (by decide)) glob_nil (by first | exact inSL_I _ | simp) rfl (by first | exact .inl rfl | exact .inr ⟨by simp, novsL_I _⟩ | exact .inr ⟨by simp, by simp⟩) rfl rfl)) ?_
    have hl7 := (length_quarterL (quarterL (quarterL (quarterL (quarterL (quarterL (quarterL (cha (firstM key n nonce) k) 0 4 8 12) 1 5 9 13) 2 6 10 14) 3 7 11 15) 0 5 10 15) 1 6 11 12) 2 7 8 13).trans hl6
    have hw7 := W32_quarterL hw6 2 7 8 13
    refine WL_cons hC.fn (.plain rfl (oc_assign hC (.tmp rfl) rfl rfl)) ?_
    refine WL_nil ?_
    refine W_region ?_
    refine WL_cons hC.fn (.plain rfl (oc_move hC (.tmp rfl) rfl rfl)) ?_
    refine WL_cons hC.fn (.plain rfl (oc_callN hC (.cons (.tmp rfl) (.cons .cint (.cons .cint (.cons .cint (.cons .cint .nil))))) (.cons1 (by first | exact .free (by first | exact inSL_I _ | simp) | exact .row rfl rfl (by first | exact inSL_I _ | simp) | exact .nils | exact .sl1 rfl (by first | exact cut_I | rfl) (by first | exact inSL_I _ | simp)) (.cons1 (.free (by first | exact inSL_I _ | simp)) (.cons1 (.free (by first | exact inSL_I _ | simp)) (.cons1 (.free (by first | exact inSL_I _ | simp)) (.cons1 (.free (by first | exact inSL_I _ | simp)) (.same (by first | exact inSL_I _ | simp))))))) (rquarter_c 16 3 4 9 14 (quarterL (quarterL (quarterL (quarterL (quarterL (quarterL (quarterL (cha (firstM key n nonce) k) 0 4 8 12) 1 5 9 13) 2 6 10 14) 3 7 11 15) 0 5 10 15) 1 6 11 12) 2 7 8 13) hl7 hw7 (by decide) (by decide) (by decide) (by decide) (by decide) (by decide) (by decide) (by decide) (by decide) (by decide) (by decide)) glob_nil (by first | exact inSL_I _ | simp) rfl (by first | exact .inl rfl | exact .inr ⟨by simp, novsL_I _⟩ | exact .inr ⟨by simp, by simp⟩) rfl rfl)) ?_
    rw [qs_8, cha_succ]
    refine WL_cons hC.fn (.plain rfl (oc_assign hC (.tmp rfl) rfl rfl)) ?_
    refine WL_nil ?_
    refine W_region ?_
    refine WL_cons hC.fn (.plain rfl (oc_move hC (.tmp rfl) rfl rfl)) ?_
    refine WL_cons hC.fn (.plain rfl (oc_bin hC rfl (.tmp rfl) .cint (by first | exact i64_add (by omega) | rfl) rfl rfl)) ?_
    refine WL_cons hC.fn (.plain rfl (oc_assign hC (.tmp rfl) rfl rfl)) ?_
    refine WL_nil ?_
    exact ⟨(k + 1), (by omega), (Weak.trans (Weak.trans (weak_sl (t := 8) rfl rfl) (weak_slv (t := 8) (us := I .i64 (cha (firstM key n nonce) (k + 1))) rfl rfl (.here rfl) (by rw [length_I, List.drop_zero, (length_cha _ _).trans hlF]; exact take_allI ((length_cha _ _).trans hlF)) (by intro _; decide) (inSL_I _))) (weak (fun k => k) (.cons rfl (by first | exact ren_agI | exact ren_vsI | exact ren_free _ _ (by first | exact inSL_I _ | simp)) (by first | exact inSL_I _ | simp) (.cons rfl (by first | exact ren_agI | exact ren_vsI | exact ren_free _ _ (by first | exact inSL_I _ | simp)) (by first | exact inSL_I _ | simp) (.cons rfl (by first | rfl | exact congrArg (AV.i _) (by omega) | exact congrArg (AV.i _) (by simp; omega)) trivial .nil))) .nil rfl rfl rfl)), (by omega)⟩
  ·
    replace hc := lss_f hc
    obtain rfl : k = 10 := by omega
    have hl0 : (cha (firstM key n nonce) 10).length = 16 := (length_cha _ _).trans hlF
    have hw0 := W32_cha hwF 10
    refine W_exit ?_
    refine W_seq ?_
    refine W_region ?_
    refine WL_cons hC.fn (.plain rfl (oc_assign hC .cnils rfl rfl)) ?_
    refine WL_nil ?_
    refine W_seq ?_
    refine W_seq ?_
    refine W_region ?_
    refine WL_cons hC.fn (.plain rfl (oc_assign hC .cint rfl rfl)) ?_
    refine WL_nil ?_
    refine W_blk ?_
    refine W_weak (weak_nil (t := 10) (e := 5) (sz := 1) rfl) ?_
    refine W_loopW (fun (ζ : Nat) => ⟨1, [(7, .vs 16 (I .i64 (firstM key n nonce))), (8, .vs 16 (I .i64 (cha (firstM key n nonce) 10))), (10, .row 0), (11, .i .i64 ζ)], [(0, .row 5 1 (4 * ζ) (I .u8 (outN (sumL (cha (firstM key n nonce) 10) (firstM key n nonce)) (4 * ζ))))]⟩) (fun ζ => ζ ≤ 16) (fun ζ => 16 - ζ) (0) (by simp) (weak (fun k => k) (.cons rfl (by first | exact ren_agI | exact ren_vsI | exact ren_free _ _ (by first | exact inSL_I _ | simp)) (by first | exact inSL_I _ | simp) (.cons rfl (by first | exact ren_agI | exact ren_vsI | exact ren_free _ _ (by first | exact inSL_I _ | simp)) (by first | exact inSL_I _ | simp) (.cons rfl (by first | rfl | simp) (by show _ < _; decide) (.cons rfl rfl trivial .nil)))) (.cons rfl (renRow (l' := []) rfl outN_zero) rfl (by first | exact inSL_I _ | simp) .nil) rfl rfl rfl) ?_
    intro i hR
    replace hR : i ≤ 16 := hR
    first | show W _ _ _ ⟨1, [(7, .vs 16 (I .i64 (firstM key n nonce))), (8, .vs 16 (I .i64 (cha (firstM key n nonce) 10))), (10, .row 0), (11, .i .i64 i)], [(0, .row 5 1 (4 * i) (I .u8 (outN (sumL (cha (firstM key n nonce) 10) (firstM key n nonce)) (4 * i))))]⟩ | skip
    have h1 := hw0.get i
    have h2 := hwF.get i
    have h3 := sum_range (s := cha (firstM key n nonce) 10) (t := (firstM key n nonce)) i
    have h4 := sum_get (s := cha (firstM key n nonce) 10) (t := (firstM key n nonce)) (i := i)
    refine W_seq ?_
    refine W_seq ?_
    refine W_region ?_
    refine WL_cons hC.fn (.plain rfl (oc_move hC (.tmp rfl) rfl rfl)) ?_
    refine WL_cons hC.fn (.plain rfl (ox_cmp hC rfl (.tmp rfl) .cint rfl rfl rfl)) ?_
    refine WL_nil ?_
    refine W_cond rfl (by decide) (fun hc => ?_) (fun hc => ?_)
    ·
      replace hc := lss_t hc
      
      refine W_skip ?_
      refine W_seq ?_
      refine W_blk ?_
      refine W_seq ?_
      refine W_drawD hC ?_
      refine WD_cons (.plain rfl (oc_move hC (.tmp rfl) rfl rfl)) ?_
      refine WD_cons (.plain rfl (oc_move hC (.tmp rfl) rfl rfl)) ?_
      refine WD_cons (.plain rfl (ox_indexS hC  (.tmp rfl) (.tmp rfl) idx_52 (by first | rfl | exact toNat_up (by omega)) (by first | exact Nat.mul_one _ | rfl) (by first | exact .row rfl | exact .sl (Nat.zero_add _) | exact .sl rfl | exact .vs (by first | omega | (simp <;> fail) | (simp; omega))) (by first | omega | (simp <;> fail) | (simp; omega)) rfl rfl)) ?_
      refine WD_cons (.plain rfl (oc_load hC (.tmp rfl) (by first | exact .p rfl | exact .rp) shp_3 (by exact (unit_I (by first | omega | (simp <;> fail) | (simp; omega)))) rfl rfl)) ?_
      refine WD_cons (.plain rfl (oc_move hC (.tmp rfl) rfl rfl)) ?_
      refine WD_cons (.plain rfl (oc_move hC (.tmp rfl) rfl rfl)) ?_
      refine WD_cons (.plain rfl (ox_indexS hC  (.tmp rfl) (.tmp rfl) idx_52 (by first | rfl | exact toNat_up (by omega)) (by first | exact Nat.mul_one _ | rfl) (by first | exact .row rfl | exact .sl (Nat.zero_add _) | exact .sl rfl | exact .vs (by first | omega | (simp <;> fail) | (simp; omega))) (by first | omega | (simp <;> fail) | (simp; omega)) rfl rfl)) ?_
      refine WD_cons (.plain rfl (oc_load hC (.tmp rfl) (by first | exact .p rfl | exact .rp) shp_3 (by exact (unit_I (by first | omega | (simp <;> fail) | (simp; omega)))) rfl rfl)) ?_
      refine WD_cons (.plain rfl (oc_bin hC rfl (.tmp rfl) (.tmp rfl) (by first | exact i64_add (by omega) | rfl) rfl rfl)) ?_
      refine WD_cons (.plain rfl (oc_call hC (.cons (.tmp rfl) .nil) (.cons1 (.free (by first | exact inSL_I _ | simp)) (.same (by first | exact inSL_I _ | simp))) (rword_c _ (by omega)) glob_nil (by first | exact inSL_I _ | simp) (by first | exact .inl rfl | exact .inr (by simp)) rfl rfl)) ?_
      rw [show ((cha (firstM key n nonce) 10).getD i 0 + (firstM key n nonce).getD i 0) % 4294967296 = (sumL (cha (firstM key n nonce) 10) (firstM key n nonce)).getD i 0 from (h4 (by omega)).symm]
      generalize hw : (sumL (cha (firstM key n nonce) 10) (firstM key n nonce)).getD i 0 = wd at *
      refine WD_cons (.plain rfl (oc_assign hC (.tmp rfl) rfl rfl)) ?_
      refine WD_nil (by kernel_rfl) ?_
      refine W_region ?_
      refine WL_cons hC.fn (.plain rfl (oc_move hC (.tmp rfl) rfl rfl)) ?_
      refine WL_cons hC.fn (.plain rfl (oc_move hC (.tmp rfl) rfl rfl)) ?_
      refine WL_cons hC.fn (.plain rfl (oc_div hC (.inr rfl) (.tmp rfl) .cint (by first | decide | omega) (by first | exact rem_nn (by omega) | rfl) rfl rfl)) ?_
      refine WL_cons hC.fn (.plain rfl (oc_conv hC (.tmp rfl) rfl Try.underlying5 (by first | exact u8_conv (by omega) | rfl) rfl rfl)) ?_
      refine WL_cons hC.fn (.plain rfl (oc_move hC (.tmp rfl) rfl rfl)) ?_
      refine WL_cons hC.fn (.plain rfl (oc_div hC (.inl rfl) (.tmp rfl) .cint (by first | decide | omega) (by first | exact i64_quo (by omega) (by omega) (by omega) | rfl) rfl rfl)) ?_
      refine WL_cons hC.fn (.plain rfl (oc_div hC (.inr rfl) (.tmp rfl) .cint (by first | decide | omega) (by first | exact rem_nn (by omega) | rfl) rfl rfl)) ?_
      refine WL_cons hC.fn (.plain rfl (oc_conv hC (.tmp rfl) rfl Try.underlying5 (by first | exact u8_conv (by omega) | rfl) rfl rfl)) ?_
      refine WL_cons hC.fn (.plain rfl (oc_move hC (.tmp rfl) rfl rfl)) ?_
      refine WL_cons hC.fn (.plain rfl (oc_div hC (.inl rfl) (.tmp rfl) .cint (by first | decide | omega) (by first | exact i64_quo (by omega) (by omega) (by omega) | rfl) rfl rfl)) ?_
      refine WL_cons hC.fn (.plain rfl (oc_div hC (.inr rfl) (.tmp rfl) .cint (by first | decide | omega) (by first | exact rem_nn (by omega) | rfl) rfl rfl)) ?_
      refine WL_cons hC.fn (.plain rfl (oc_conv hC (.tmp rfl) rfl Try.underlying5 (by first | exact u8_conv (by omega) | rfl) rfl rfl)) ?_
      refine WL_cons hC.fn (.plain rfl (oc_move hC (.tmp rfl) rfl rfl)) ?_
      refine WL_cons hC.fn (.plain rfl (oc_div hC (.inl rfl) (.tmp rfl) .cint (by first | decide | omega) (by first | exact i64_quo (by omega) (by omega) (by omega) | rfl) rfl rfl)) ?_
      refine WL_cons hC.fn (.plain rfl (oc_conv hC (.tmp rfl) rfl Try.underlying5 (by first | exact u8_conv (by omega) | rfl) rfl rfl)) ?_
      refine WL_cons hC.fn (.plain rfl (ox_lit hC (.cons (.tmp rfl) (.cons (.tmp rfl) (.cons (.tmp rfl) (.cons (.tmp rfl) .nil)))) Try.underlying24 cells_5 zero_5 rfl (by decide) rfl rfl (by first | rfl | simp) rfl rfl)) ?_
      refine WL_cons hC.fn (.plain rfl (ox_append (n' := 4 * i + 4) (cs' := I .u8 (outN (sumL (cha (firstM key n nonce) 10) (firstM key n nonce)) (4 * i) ++ [wd % 256, wd / 256 % 256, wd / 65536 % 256, wd / 16777216])) hC (.tmp rfl) (.tmp rfl) (by first | exact .row rfl rfl (by first | exact .here rfl | exact .there (.here rfl) rfl | exact .there (.there (.here rfl) rfl) rfl | exact .there (.there (.there (.here rfl) rfl) rfl) rfl | exact .there (.there (.there (.there (.here rfl) rfl) rfl) rfl) rfl | exact .there (.there (.there (.there (.there (.here rfl) rfl) rfl) rfl) rfl) rfl | exact .there (.there (.there (.there (.there (.there (.here rfl) rfl) rfl) rfl) rfl) rfl) rfl | exact .there (.there (.there (.there (.there (.there (.there (.here rfl) rfl) rfl) rfl) rfl) rfl) rfl) rfl | exact .there (.there (.there (.there (.there (.there (.there (.there (.here rfl) rfl) rfl) rfl) rfl) rfl) rfl) rfl) rfl | exact .there (.there (.there (.there (.there (.there (.there (.there (.there (.here rfl) rfl) rfl) rfl) rfl) rfl) rfl) rfl) rfl) rfl | exact .there (.there (.there (.there (.there (.there (.there (.there (.there (.there (.here rfl) rfl) rfl) rfl) rfl) rfl) rfl) rfl) rfl) rfl) rfl | exact .there (.there (.there (.there (.there (.there (.there (.there (.there (.there (.there (.here rfl) rfl) rfl) rfl) rfl) rfl) rfl) rfl) rfl) rfl) rfl) rfl | exact .there (.there (.there (.there (.there (.there (.there (.there (.there (.there (.there (.there (.here rfl) rfl) rfl) rfl) rfl) rfl) rfl) rfl) rfl) rfl) rfl) rfl) rfl | exact .there (.there (.there (.there (.there (.there (.there (.there (.there (.there (.there (.there (.there (.here rfl) rfl) rfl) rfl) rfl) rfl) rfl) rfl) rfl) rfl) rfl) rfl) rfl) rfl | exact .there (.there (.there (.there (.there (.there (.there (.there (.there (.there (.there (.there (.there (.there (.here rfl) rfl) rfl) rfl) rfl) rfl) rfl) rfl) rfl) rfl) rfl) rfl) rfl) rfl) rfl | exact .there (.there (.there (.there (.there (.there (.there (.there (.there (.there (.there (.there (.there (.there (.there (.here rfl) rfl) rfl) rfl) rfl) rfl) rfl) rfl) rfl) rfl) rfl) rfl) rfl) rfl) rfl) rfl) | exact .nils) (by first | exact .row rfl | exact .vs | exact .sl rfl | exact .nils) (by first | exact hro_nil | exact hro_one rfl) Try.underlying24 cells_5 bytes_5 zero_5 rfl (by decide) (by first | (simp <;> fail) | (simp; omega)) (by first | rfl | exact one_takeI) rfl app_4 (by simp only [maxLen]; omega) (by omega) rfl rfl)) ?_
      refine WL_cons hC.fn (.plain rfl (oc_assign hC (.tmp rfl) rfl rfl)) ?_
      refine WL_nil ?_
      refine W_region ?_
      refine WL_cons hC.fn (.plain rfl (oc_move hC (.tmp rfl) rfl rfl)) ?_
      refine WL_cons hC.fn (.plain rfl (oc_bin hC rfl (.tmp rfl) .cint (by first | exact i64_add (by omega) | rfl) rfl rfl)) ?_
      refine WL_cons hC.fn (.plain rfl (oc_assign hC (.tmp rfl) rfl rfl)) ?_
      refine WL_nil ?_
      exact ⟨(i + 1), (by omega), (weak (fun k => bif Nat.beq k 0 then 1 else k) (.cons rfl (by first | exact ren_agI | exact ren_vsI | exact ren_free _ _ (by first | exact inSL_I _ | simp)) (by first | exact inSL_I _ | simp) (.cons rfl (by first | exact ren_agI | exact ren_vsI | exact ren_free _ _ (by first | exact inSL_I _ | simp)) (by first | exact inSL_I _ | simp) (.cons rfl (by first | rfl | simp) (by show _ < _; decide) (.cons rfl (by first | rfl | exact congrArg (AV.i _) (by omega) | exact congrArg (AV.i _) (by simp; omega)) trivial .nil)))) (.cons rfl (renRow (by omega) (by rw [show 4 * (i + 1) = 4 * i + 4 by omega, outN_4 hw h3])) rfl (by first | exact inSL_I _ | simp) .nil) rfl rfl rfl), (by omega)⟩
    ·
      replace hc := lss_f hc
      obtain rfl : i = 16 := by omega
      rw [show 4 * 16 = 64 from rfl, blk_out]
      refine W_exit ?_
      refine W_seq ?_
      refine W_region ?_
      refine WL_cons hC.fn (.plain rfl (oc_move hC (.tmp rfl) rfl rfl)) ?_
      refine WL_cons hC.fn (.plain rfl (oc_assign hC (.tmp rfl) rfl rfl)) ?_
      refine WL_nil ?_
      refine W_ret ?_
      exact fin1 (.cons (.tmp rfl) .nil) rfl rfl (inSL_I _)
set_option maxRecDepth 20000 in
set_option maxHeartbeats 4000000 in
theorem rxorb_c (nb : Nat) (b : List Int) (key nonce : List Int) (n : Int) (hk : key.length = 32) (hnc : nonce.length = 12) (hk8 : B8 key) (hc8 : B8 nonce) (hn : 0 ≤ n ∧ n < 4294967296) (hb : b.length = nb) (hb8 : B8 b) (hl : nb ≤ 1099511627776) : FnC Try.prog 15 [] [.vs 32 (I .u8 key), .i .i64 n, .vs 12 (I .u8 nonce), .vs nb (I .u8 b)] [] [(0, .row 5 1 nb (I .u8 (xorM key n nonce b)))] (.row 0) := by
  refine FnC.introR (N0 := 0) (T := 43) (E := [(0, .vs 32 (I .u8 key)), (1, .i .i64 n), (2, .vs 12 (I .u8 nonce)), (3, .vs nb (I .u8 b))]) Try.func15 rfl (by decide) mix rfl rfl rfl (by simp) rfl ⟨(by first | exact inSL_I _ | trivial | simp), (by first | exact inSL_I _ | trivial | simp), (by first | exact inSL_I _ | trivial | simp), (by first | exact inSL_I _ | trivial | simp), trivial⟩ (by simp) (by
        intro S ha hr hw
        have s0 : S 0 := hw 0 (by first | (simp; done) | (show some _ ≠ none; simp)) (by first | rfl | simp)
        refine ⟨by first | exact inSL_I _ | simp [s0], fun k b hm => ?_⟩
        simp only [List.mem_cons, Prod.mk.injEq, List.not_mem_nil, or_false] at hm
        rcases hm with ⟨rfl, rfl⟩
        · exact ⟨s0, by first | exact inSL_I _ | simp [s0]⟩) (fun F n0 X w ρ hC hro => ?_)
  refine W_seq ?_
  refine W_region ?_
  refine WL_cons hC.fn (.plain rfl (oc_assign hC .cnils rfl rfl)) ?_
  refine WL_nil ?_
  refine W_seq ?_
  refine W_region ?_
  refine WL_cons hC.fn (.plain rfl (oc_assign hC .cnils rfl rfl)) ?_
  refine WL_nil ?_
  refine W_seq ?_
  refine W_region ?_
  refine WL_cons hC.fn (.plain rfl (oc_assign hC .cnils rfl rfl)) ?_
  refine WL_nil ?_
  refine W_seq ?_
  refine W_seq ?_
  refine W_region ?_
  refine WL_cons hC.fn (.plain rfl (oc_assign hC .cint rfl rfl)) ?_
  refine WL_nil ?_
  refine W_blk ?_
  refine W_weak (weak_nil (t := 9) (e := 5) (sz := 1) rfl) ?_
  refine W_loopW (fun (ζ : Nat × List Int) => ⟨1, [(0, .vs 32 (I .u8 key)), (1, .i .i64 n), (2, .vs 12 (I .u8 nonce)), (3, .vs nb (I .u8 b)), (9, .row 0), (10, .vs ζ.2.length (I .u8 ζ.2)), (11, .i .i64 ζ.1)], [(0, .row 5 1 ζ.1 (I .u8 (xV key n nonce b ζ.1)))]⟩) (fun ζ => ζ.1 ≤ nb ∧ (ζ.1 % 64 ≠ 0 → ζ.2 = (blkM key (nn n (ζ.1 / 64)) nonce))) (fun ζ => nb - ζ.1) (0, []) ⟨Nat.zero_le _, fun h => absurd rfl h⟩ (Weak.trans (weak_nilv (t := 10) rfl) (weak (fun k => k) (.cons rfl (by first | exact ren_agI | exact ren_vsI | exact ren_free _ _ (by first | exact inSL_I _ | simp)) (by first | exact inSL_I _ | simp) (.cons rfl (by first | rfl | exact congrArg (AV.i _) (by omega) | exact congrArg (AV.i _) (by simp; omega)) trivial (.cons rfl (by first | exact ren_agI | exact ren_vsI | exact ren_free _ _ (by first | exact inSL_I _ | simp)) (by first | exact inSL_I _ | simp) (.cons rfl (by first | exact ren_agI | exact ren_vsI | exact ren_free _ _ (by first | exact inSL_I _ | simp)) (by first | exact inSL_I _ | simp) (.cons rfl (by first | rfl | simp) (by show _ < _; decide) (.cons rfl rfl (by first | exact inSL_I _ | simp) (.cons rfl rfl trivial .nil))))))) (.cons rfl (renRow (l' := []) rfl xV_zero) rfl (by first | exact inSL_I _ | simp) .nil) rfl rfl rfl)) ?_
  rintro ⟨k, X⟩ hR
  replace hR : k ≤ nb ∧ (k % 64 ≠ 0 → X = (blkM key (nn n (k / 64)) nonce)) := hR
  obtain ⟨hkn, hX⟩ := hR
  first | show W _ _ _ ⟨1, [(0, .vs 32 (I .u8 key)), (1, .i .i64 n), (2, .vs 12 (I .u8 nonce)), (3, .vs nb (I .u8 b)), (9, .row 0), (10, .vs X.length (I .u8 X)), (11, .i .i64 k)], [(0, .row 5 1 k (I .u8 (xV key n nonce b k)))]⟩ | skip
  refine W_seq ?_
  refine W_seq ?_
  refine W_region ?_
  refine WL_cons hC.fn (.plain rfl (oc_move hC (.tmp rfl) rfl rfl)) ?_
  refine WL_cons hC.fn (.plain rfl (oc_move hC (.tmp rfl) rfl rfl)) ?_
  refine WL_cons hC.fn (.plain rfl (ox_len hC (.tmp rfl) (by first | exact .row rfl | exact .vs | exact .sl rfl | exact .nils) Try.underlying24 rfl rfl rfl)) ?_
  refine WL_cons hC.fn (.plain rfl (ox_cmp hC rfl (.tmp rfl) (.tmp rfl) rfl rfl rfl)) ?_
  refine WL_nil ?_
  refine W_cond rfl (by decide) (fun hc => ?_) (fun hc => ?_)
  ·
    replace hc := lss_t hc
    
    refine W_skip ?_
    refine W_seq ?_
    refine W_blk ?_
    refine W_seq ?_
    refine W_seq ?_
    refine W_region ?_
    refine WL_cons hC.fn (.plain rfl (oc_move hC (.tmp rfl) rfl rfl)) ?_
    refine WL_cons hC.fn (.plain rfl (oc_div hC (.inr rfl) (.tmp rfl) .cint (by first | decide | omega) (r := ((k % 64 : Nat) : Int)) (nrem (y := 64)) rfl rfl)) ?_
    refine WL_cons hC.fn (.plain rfl (ox_cmp hC rfl (.tmp rfl) .cint rfl rfl rfl)) ?_
    refine WL_nil ?_
    refine W_join (fun (ζ : List Int) => ⟨1, [(0, .vs 32 (I .u8 key)), (1, .i .i64 n), (2, .vs 12 (I .u8 nonce)), (3, .vs nb (I .u8 b)), (9, .row 0), (10, .vs ζ.length (I .u8 ζ)), (11, .i .i64 k)], [(0, .row 5 1 k (I .u8 (xV key n nonce b k)))]⟩) (fun ζ => ζ = (blkM key (nn n (k / 64)) nonce)) ?_ ?_
    ·
      refine W_cond rfl (by decide) (fun hc => ?_) (fun hc => ?_)
      ·
        replace hc := eql_t hc
        refine W_region ?_
        refine WL_cons hC.fn (.plain rfl (oc_move hC (.tmp rfl) rfl rfl)) ?_
        refine WL_cons hC.fn (.plain rfl (oc_move hC (.tmp rfl) rfl rfl)) ?_
        refine WL_cons hC.fn (.plain rfl (oc_move hC (.tmp rfl) rfl rfl)) ?_
        refine WL_cons hC.fn (.plain rfl (oc_div hC (.inl rfl) (.tmp rfl) .cint (by first | decide | omega) (r := ((k / 64 : Nat) : Int)) (nquo (y := 64) (by omega) (by decide)) rfl rfl)) ?_
        refine WL_cons hC.fn (.plain rfl (oc_bin hC rfl (.tmp rfl) (.tmp rfl) (by first | exact i64_add (by omega) | rfl) rfl rfl)) ?_
        refine WL_cons hC.fn (.plain rfl (oc_call hC (.cons (.tmp rfl) .nil) (.cons1 (.free (by first | exact inSL_I _ | simp)) (.same (by first | exact inSL_I _ | simp))) (rword_c _ (by omega)) glob_nil (by first | exact inSL_I _ | simp) (by first | exact .inl rfl | exact .inr (by simp)) rfl rfl)) ?_
        rw [show (n + ((k / 64 : Nat) : Int)) % 4294967296 = nn n (k / 64) by unfold nn; rfl]
        refine WL_cons hC.fn (.plain rfl (oc_move hC (.tmp rfl) rfl rfl)) ?_
        refine WL_cons hC.fn (.plain rfl (oc_callN hC (.cons (.tmp rfl) (.cons (.tmp rfl) (.cons (.tmp rfl) .nil))) (.cons1 (by first | exact .free (by first | exact inSL_I _ | simp) | exact .row rfl rfl (by first | exact inSL_I _ | simp) | exact .nils | exact .sl1 rfl (by first | exact cut_I | rfl) (by first | exact inSL_I _ | simp)) (.cons1 (.free (by first | exact inSL_I _ | simp)) (.cons1 (by first | exact .free (by first | exact inSL_I _ | simp) | exact .row rfl rfl (by first | exact inSL_I _ | simp) | exact .nils | exact .sl1 rfl (by first | exact cut_I | rfl) (by first | exact inSL_I _ | simp)) (.same (by first | exact inSL_I _ | simp))))) (rblock_c _ _ _ hk hnc hk8 hc8 nn_range) glob_nil (by first | exact inSL_I _ | simp) rfl (by first | exact .inl rfl | exact .inr ⟨by simp, novsL_I _⟩ | exact .inr ⟨by simp, by simp⟩) rfl rfl)) ?_
        refine WL_cons hC.fn (.plain rfl (oc_assign hC (.tmp rfl) rfl rfl)) ?_
        refine WL_nil ?_
        exact ⟨((blkM key (nn n (k / 64)) nonce)), rfl, (Weak.trans (Weak.trans (weak_sl (t := 10) rfl rfl) (weak_slv (t := 10) (us := I .u8 (blkM key (nn n (k / 64)) nonce)) rfl rfl (.here rfl) (by rw [length_I, List.drop_zero]; exact take_allI rfl) (by intro _; decide) (inSL_I _))) (weak (fun k => k) (.cons rfl (by first | exact ren_agI | exact ren_vsI | exact ren_free _ _ (by first | exact inSL_I _ | simp)) (by first | exact inSL_I _ | simp) (.cons rfl (by first | rfl | exact congrArg (AV.i _) (by omega) | exact congrArg (AV.i _) (by simp; omega)) trivial (.cons rfl (by first | exact ren_agI | exact ren_vsI | exact ren_free _ _ (by first | exact inSL_I _ | simp)) (by first | exact inSL_I _ | simp) (.cons rfl (by first | exact ren_agI | exact ren_vsI | exact ren_free _ _ (by first | exact inSL_I _ | simp)) (by first | exact inSL_I _ | simp) (.cons rfl (by first | rfl | simp) (by show _ < _; decide) (.cons rfl (ren_vsI.trans (by rw [length_blk])) (by first | exact inSL_I _ | simp) (.cons rfl (by first | rfl | exact congrArg (AV.i _) (by omega) | exact congrArg (AV.i _) (by simp; omega)) trivial .nil))))))) (.cons rfl (renRow rfl rfl) rfl (by first | exact inSL_I _ | simp) .nil) rfl rfl rfl))⟩
      ·
        replace hc := eql_f hc
        refine W_skip ?_
        exact ⟨(X), (hX (by omega)), (weak (fun k => k) (.cons rfl (by first | exact ren_agI | exact ren_vsI | exact ren_free _ _ (by first | exact inSL_I _ | simp)) (by first | exact inSL_I _ | simp) (.cons rfl (by first | rfl | exact congrArg (AV.i _) (by omega) | exact congrArg (AV.i _) (by simp; omega)) trivial (.cons rfl (by first | exact ren_agI | exact ren_vsI | exact ren_free _ _ (by first | exact inSL_I _ | simp)) (by first | exact inSL_I _ | simp) (.cons rfl (by first | exact ren_agI | exact ren_vsI | exact ren_free _ _ (by first | exact inSL_I _ | simp)) (by first | exact inSL_I _ | simp) (.cons rfl (by first | rfl | simp) (by show _ < _; decide) (.cons rfl (by first | exact ren_agI | exact ren_vsI | exact ren_free _ _ (by first | exact inSL_I _ | simp)) (by first | exact inSL_I _ | simp) (.cons rfl (by first | rfl | exact congrArg (AV.i _) (by omega) | exact congrArg (AV.i _) (by simp; omega)) trivial .nil))))))) (.cons rfl (renRow rfl rfl) rfl (by first | exact inSL_I _ | simp) .nil) rfl rfl rfl)⟩
    ·
      intro Y hR
      replace hR : Y = (blkM key (nn n (k / 64)) nonce) := hR
      first | show W _ _ _ ⟨1, [(0, .vs 32 (I .u8 key)), (1, .i .i64 n), (2, .vs 12 (I .u8 nonce)), (3, .vs nb (I .u8 b)), (9, .row 0), (10, .vs Y.length (I .u8 Y)), (11, .i .i64 k)], [(0, .row 5 1 k (I .u8 (xV key n nonce b k)))]⟩ | skip
      replace hY : Y = (blkM key (nn n (k / 64)) nonce) := hR
      have hlY : Y.length = 64 := by rw [hY]; exact length_blk _ _ _
      refine W_drawD hC ?_
      refine WD_cons (.plain rfl (oc_move hC (.tmp rfl) rfl rfl)) ?_
      refine WD_cons (.plain rfl (oc_move hC (.tmp rfl) rfl rfl)) ?_
      refine WD_cons (.plain rfl (oc_move hC (.tmp rfl) rfl rfl)) ?_
      refine WD_cons (.plain rfl (ox_indexS hC  (.tmp rfl) (.tmp rfl) idx_24 (by first | rfl | exact toNat_up (by omega)) (by first | exact Nat.mul_one _ | rfl) (by first | exact .row rfl | exact .sl (Nat.zero_add _) | exact .sl rfl | exact .vs (by first | omega | (simp <;> fail) | (simp; omega))) (by first | omega | (simp <;> fail) | (simp; omega)) rfl rfl)) ?_
      refine WD_cons (.plain rfl (oc_load hC (.tmp rfl) (by first | exact .p rfl | exact .rp) shp_5 (by exact (unit_I (by first | omega | (simp <;> fail) | (simp; omega)))) rfl rfl)) ?_
      refine WD_cons (.plain rfl (oc_move hC (.tmp rfl) rfl rfl)) ?_
      refine WD_cons (.plain rfl (oc_move hC (.tmp rfl) rfl rfl)) ?_
      refine WD_cons (.plain rfl (oc_div hC (.inr rfl) (.tmp rfl) .cint (by first | decide | omega) (r := ((k % 64 : Nat) : Int)) (nrem (y := 64)) rfl rfl)) ?_
      refine WD_cons (.plain rfl (ox_indexS hC  (.tmp rfl) (.tmp rfl) idx_24 (by first | rfl | exact toNat_up (by omega)) (by first | exact Nat.mul_one _ | rfl) (by first | exact .row rfl | exact .sl (Nat.zero_add _) | exact .sl rfl | exact .vs (by first | omega | (simp <;> fail) | (simp; omega))) (by omega) rfl rfl)) ?_
      refine WD_cons (.plain rfl (oc_load hC (.tmp rfl) (by first | exact .p rfl | exact .rp) shp_5 (by exact (unit_I (by first | omega | (simp <;> fail) | (simp; omega)))) rfl rfl)) ?_
      refine WD_cons (.plain rfl (oc_bin hC rfl (.tmp rfl) (.tmp rfl) rfl rfl rfl)) ?_
      refine WD_cons (.plain rfl (ox_lit hC (.cons (.tmp rfl) .nil) Try.underlying24 cells_5 zero_5 rfl (by decide) rfl rfl (by first | rfl | simp) rfl rfl)) ?_
      refine WD_cons (.plain rfl (ox_append hC (.tmp rfl) (.tmp rfl) (by first | exact .row rfl rfl (by first | exact .here rfl | exact .there (.here rfl) rfl | exact .there (.there (.here rfl) rfl) rfl | exact .there (.there (.there (.here rfl) rfl) rfl) rfl | exact .there (.there (.there (.there (.here rfl) rfl) rfl) rfl) rfl | exact .there (.there (.there (.there (.there (.here rfl) rfl) rfl) rfl) rfl) rfl | exact .there (.there (.there (.there (.there (.there (.here rfl) rfl) rfl) rfl) rfl) rfl) rfl | exact .there (.there (.there (.there (.there (.there (.there (.here rfl) rfl) rfl) rfl) rfl) rfl) rfl) rfl | exact .there (.there (.there (.there (.there (.there (.there (.there (.here rfl) rfl) rfl) rfl) rfl) rfl) rfl) rfl) rfl | exact .there (.there (.there (.there (.there (.there (.there (.there (.there (.here rfl) rfl) rfl) rfl) rfl) rfl) rfl) rfl) rfl) rfl | exact .there (.there (.there (.there (.there (.there (.there (.there (.there (.there (.here rfl) rfl) rfl) rfl) rfl) rfl) rfl) rfl) rfl) rfl) rfl | exact .there (.there (.there (.there (.there (.there (.there (.there (.there (.there (.there (.here rfl) rfl) rfl) rfl) rfl) rfl) rfl) rfl) rfl) rfl) rfl) rfl | exact .there (.there (.there (.there (.there (.there (.there (.there (.there (.there (.there (.there (.here rfl) rfl) rfl) rfl) rfl) rfl) rfl) rfl) rfl) rfl) rfl) rfl) rfl | exact .there (.there (.there (.there (.there (.there (.there (.there (.there (.there (.there (.there (.there (.here rfl) rfl) rfl) rfl) rfl) rfl) rfl) rfl) rfl) rfl) rfl) rfl) rfl) rfl | exact .there (.there (.there (.there (.there (.there (.there (.there (.there (.there (.there (.there (.there (.there (.here rfl) rfl) rfl) rfl) rfl) rfl) rfl) rfl) rfl) rfl) rfl) rfl) rfl) rfl) rfl | exact .there (.there (.there (.there (.there (.there (.there (.there (.there (.there (.there (.there (.there (.there (.there (.here rfl) rfl) rfl) rfl) rfl) rfl) rfl) rfl) rfl) rfl) rfl) rfl) rfl) rfl) rfl) rfl) | exact .nils) (by first | exact .row rfl | exact .vs | exact .sl rfl | exact .nils) (by first | exact hro_nil | exact hro_one rfl) Try.underlying24 cells_5 bytes_5 zero_5 rfl (by decide) (by first | (simp <;> fail) | (simp; omega)) (by first | rfl | exact one_takeI) (by first | rfl | (simp <;> fail) | (simp; omega)) app_1 (by simp only [maxLen]; omega) (by omega) rfl rfl)) ?_
      refine WD_cons (.plain rfl (oc_assign hC (.tmp rfl) rfl rfl)) ?_
      refine WD_nil (by kernel_rfl) ?_
      refine W_region ?_
      refine WL_cons hC.fn (.plain rfl (oc_move hC (.tmp rfl) rfl rfl)) ?_
      refine WL_cons hC.fn (.plain rfl (oc_bin hC rfl (.tmp rfl) .cint (by first | exact i64_add (by omega) | rfl) rfl rfl)) ?_
      refine WL_cons hC.fn (.plain rfl (oc_assign hC (.tmp rfl) rfl rfl)) ?_
      refine WL_nil ?_
      exact ⟨(k + 1, Y), ⟨by omega, fun h => by rw [hY, show (k + 1) / 64 = k / 64 by omega]⟩, (weak (fun k => bif Nat.beq k 0 then 1 else k) (.cons rfl (by first | exact ren_agI | exact ren_vsI | exact ren_free _ _ (by first | exact inSL_I _ | simp)) (by first | exact inSL_I _ | simp) (.cons rfl (by first | rfl | exact congrArg (AV.i _) (by omega) | exact congrArg (AV.i _) (by simp; omega)) trivial (.cons rfl (by first | exact ren_agI | exact ren_vsI | exact ren_free _ _ (by first | exact inSL_I _ | simp)) (by first | exact inSL_I _ | simp) (.cons rfl (by first | exact ren_agI | exact ren_vsI | exact ren_free _ _ (by first | exact inSL_I _ | simp)) (by first | exact inSL_I _ | simp) (.cons rfl (by first | rfl | simp) (by show _ < _; decide) (.cons rfl (by first | exact ren_agI | exact ren_vsI | exact ren_free _ _ (by first | exact inSL_I _ | simp)) (by first | exact inSL_I _ | simp) (.cons rfl (by first | rfl | exact congrArg (AV.i _) (by omega) | exact congrArg (AV.i _) (by simp; omega)) trivial .nil))))))) (.cons rfl (renRow rfl (by rw [xV_succ, hY])) rfl (by first | exact inSL_I _ | simp) .nil) rfl rfl rfl), (by show nb - (k + 1) < nb - k; omega)⟩
  ·
    replace hc := lss_f hc
    obtain rfl : k = nb := by omega
    refine W_exit ?_
    refine W_seq ?_
    refine W_region ?_
    rw [xV_end hb]
    refine WL_cons hC.fn (.plain rfl (oc_move hC (.tmp rfl) rfl rfl)) ?_
    refine WL_cons hC.fn (.plain rfl (oc_assign hC (.tmp rfl) rfl rfl)) ?_
    refine WL_nil ?_
    refine W_ret ?_
    exact fin1 (.cons (.tmp rfl) .nil) rfl rfl (inSL_I _)
end Go.Proofs.Ytppbepekbanljaa
