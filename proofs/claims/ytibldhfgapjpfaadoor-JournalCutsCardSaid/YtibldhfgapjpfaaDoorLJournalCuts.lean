/- Own work, printed by a program of this claim: walks through functions of the program. -/
import Derived.Test.YtibldhfgapjpfaaDoorW5
import Derived.Test.YtibldhfgapjpfaaDoorProg
import Derived.KernelRfl
set_option linter.unusedSimpArgs false
set_option linter.unusedVariables false
namespace Go.Proofs.YtibldhfgapjpfaaDoor
open Go.Sk Go.RowKit
attribute [local simp] AV.inSL AV.inS inSL_I Blk.inS Blk.cs AV.novs AV.novsL novsL_I AV.ren AV.cells AV.one lk tuAV


set_option maxRecDepth 20000 in
set_option maxHeartbeats 4000000 in
theorem law_JournalCuts (D : List NoteT) (hIds : Ids D) (cut : Int) (st : Nat) (hst : st < 256) : FnC Tryd.prog 5 [(1000000, .rp (I .u32 nibT))] [.vs D.length (nts D), .i .i64 cut, .i .u8 st] [] [] (.b true) := by
  have hnl := length_nts hIds
  refine FnC.introR (N0 := 0) (T := 105) (E := [(0, .vs D.length (nts D)), (1, .i .i64 cut), (2, .i .u8 st), (1000000, .rp (I .u32 nibT))]) Tryd.func5 rfl (by decide) mix rfl rfl rfl (by simp) rfl ⟨(by first | exact inSL_I _ | trivial | simp), (by first | exact inSL_I _ | trivial | simp), (by first | exact inSL_I _ | trivial | simp), trivial⟩ (by simp) (by intro S _ _ h; simp) (fun F n0 X w ρ hC hro => ?_)
  refine wsr ?_
  refine wp rfl hC (ox_box hC (.tmp rfl) (by first | rfl | exact flat_agI) (by first | exact cells_ag | rfl) rfl rfl) ?_
  refine wp rfl hC (ox_box hC (.tmp rfl) (by first | rfl | exact flat_agI) (by first | exact cells_ag | rfl) rfl rfl) ?_
  refine wp rfl hC (ox_alloc hC zero_4 rfl rfl rfl) ?_
  refine WL_nil ?_
  refine W_seq ?_
  refine W_seq ?_
  rcases Nat.lt_or_ge 40 D.length with h_ | h_
  ·
    refine W_region ?_
    refine wp rfl hC (oc_load hC (.tmp rfl) (by first | exact .p rfl | exact .rp) shp_36 (by first | exact unit_one rfl | exact unit_I (by first | omega | (simp <;> fail) | (simp; omega)) | exact unit_c rfl (by decide) | exact unit_c rfl (by simp)) rfl rfl) ?_
    refine wp rfl hC (ox_len hC (.tmp rfl) (by first | exact .row rfl | exact .vs | exact .sl rfl | exact .nils) Tryd.underlying36 rfl rfl rfl) ?_
    refine wp rfl hC (ox_cmp hC rfl (.tmp rfl) .cint (r := true) (by simp only [cmpI]; exact decide_eq_true (by omega)) rfl rfl) ?_
    refine WL_nil ?_
    refine W_cond rfl (by decide) (fun _ => ?_) (fun hc => by cases hc)
    refine wsr ?_
    refine wp rfl hC (oc_call hC .nil (.same (by first | exact inSL_I _ | simp)) (awake18_c) (glob_cons rfl rfl (by first | exact inSL_I _ | simp) glob_nil) (by first | exact inSL_I _ | simp) (by first | exact .inl rfl | exact .inr (by simp)) rfl rfl) ?_
    refine wp rfl hC (ox_store hC (.tmp rfl) (.tmp rfl) rfl shp_4 (by first | rfl | exact flat_agI) (by first | exact cells1 rfl | (rw [cells_ag, length_I]; omega) | rfl | (simp <;> fail) | (simp; omega)) (by first | exact Nat.le_refl _ | exact Nat.le_of_ble_eq_true rfl | decide | (simp <;> fail) | (simp; omega)) (by first | exact put_one rfl | exact put_blkI (by first | omega | (simp <;> fail) | (simp; omega)) | exact put_rowI (by first | omega | (simp <;> fail) | (simp; omega)) | rfl) (by first | exact .here | exact .s1 rfl | exact .s2 rfl rfl | exact .s3 rfl rfl rfl | exact .s4 rfl rfl rfl rfl | exact .s5 rfl rfl rfl rfl rfl | exact .s6 rfl rfl rfl rfl rfl rfl | exact .s7 rfl rfl rfl rfl rfl rfl rfl | exact .s8 rfl rfl rfl rfl rfl rfl rfl rfl) rfl) ?_
    refine WL_nil ?_
    refine W_ret ?_
    exact fin0 (.cons (.cell rfl (.p rfl) shp_4 (unit_one rfl)) .nil) rfl trivial
  ·
    refine W_region ?_
    refine wp rfl hC (oc_load hC (.tmp rfl) (by first | exact .p rfl | exact .rp) shp_36 (by first | exact unit_one rfl | exact unit_I (by first | omega | (simp <;> fail) | (simp; omega)) | exact unit_c rfl (by decide) | exact unit_c rfl (by simp)) rfl rfl) ?_
    refine wp rfl hC (ox_len hC (.tmp rfl) (by first | exact .row rfl | exact .vs | exact .sl rfl | exact .nils) Tryd.underlying36 rfl rfl rfl) ?_
    refine wp rfl hC (ox_cmp hC rfl (.tmp rfl) .cint (r := false) (by simp only [cmpI]; exact decide_eq_false (by omega)) rfl rfl) ?_
    refine WL_nil ?_
    refine W_cond rfl (by decide) (fun hc => by cases hc) (fun _ => ?_)
    refine W_skip ?_
    refine wsr ?_
    refine wp rfl hC (oc_assign hC .cnils rfl rfl) ?_
    refine WL_nil ?_
    refine wsr ?_
    refine wp rfl hC (oc_assign hC .cint rfl rfl) ?_
    refine wp rfl hC (oc_assign hC .cint rfl rfl) ?_
    refine WL_nil ?_
    refine W_seq ?_
    refine wsr ?_
    refine wp rfl hC (oc_load hC (.tmp rfl) (by first | exact .p rfl | exact .rp) shp_36 (by first | exact unit_one rfl | exact unit_I (by first | omega | (simp <;> fail) | (simp; omega)) | exact unit_c rfl (by decide) | exact unit_c rfl (by simp)) rfl rfl) ?_
    refine wp rfl hC (ox_len hC (.tmp rfl) (by first | exact .row rfl | exact .vs | exact .sl rfl | exact .nils) Tryd.underlying36 rfl rfl rfl) ?_
    refine wp rfl hC (oc_move hC .cint rfl rfl) ?_
    refine WL_nil ?_
    refine W_blk ?_
    refine W_weak (weak_nil (t := 7) (e := 5) (sz := 1) rfl) ?_
    refine W_loopW (fun (ζ : Nat × Nat) => ⟨4, [(1, .i .i64 cut), (3, .p 0 0), (5, .p 1 0), (6, .p 2 0), (7, .row 3), (8, .i .i64 ζ.2), (9, .i .i64 ((flatB (D.take ζ.2)).length : Nat)), (20, .vs D.length (nts D)), (21, .i .i64 (D.length : Nat)), (22, .i .i64 ζ.1), (1000000, .rp (I .u32 nibT))], [(0, .blk 36 [.vs D.length (nts D)]), (1, .blk 5 [.i .u8 st]), (2, .blk 4 [.b false]), (3, .row 5 1 (flatB (D.take ζ.1)).length (I .u8 (flatB (D.take ζ.1))))]⟩) (fun ζ => ζ.1 ≤ D.length ∧ ζ.2 ≤ ζ.1 ∧ (ζ.2 = 0 ∨ (((flatB (D.take ζ.2)).length : Nat) : Int) ≤ cut) ∧ (ζ.2 < ζ.1 → cut < (((flatB (D.take (ζ.2 + 1))).length : Nat) : Int)) ∧ (∀ d ∈ D.take ζ.1, NOK d)) (fun ζ => D.length - ζ.1) (0, 0) ⟨Nat.zero_le _, Nat.le_refl _, .inl rfl, fun h => absurd h (Nat.lt_irrefl 0), by simp⟩ (weak (fun k => k) (.cons rfl (by first | rfl | exact congrArg (AV.i _) (by omega) | exact congrArg (AV.i _) (by simp; omega)) trivial (.cons rfl (by first | rfl | simp) (by show _ < _; decide) (.cons rfl (by first | rfl | simp) (by show _ < _; decide) (.cons rfl (by first | rfl | simp) (by show _ < _; decide) (.cons rfl (by first | rfl | simp) (by show _ < _; decide) (.cons rfl rfl trivial (.cons rfl (congrArg (AV.i _) (by simp [flatB_nil])) trivial (.cons rfl (ren_free _ _ (by simp)) (by simp) (.cons rfl rfl trivial (.cons rfl rfl trivial (.cons rfl (by first | exact ren_agI | exact ren_vsI | exact ren_free _ _ (by first | exact inSL_I _ | simp)) (by first | exact inSL_I _ | simp) .nil))))))))))) (.cons rfl (Blk.ren_free (by simp) _) rfl (by first | exact inSL_I _ | simp) (.cons rfl rfl rfl (by first | exact inSL_I _ | simp) (.cons rfl rfl rfl (by first | exact inSL_I _ | simp) (.cons rfl (renRow (l' := []) (by rw [List.take_zero, flatB_nil]; rfl) (by rw [List.take_zero, flatB_nil])) rfl (by first | exact inSL_I _ | simp) .nil)))) rfl rfl rfl) ?_
    rintro ⟨i, m⟩ hR
    replace hR : i ≤ D.length ∧ m ≤ i ∧ (m = 0 ∨ (((flatB (D.take m)).length : Nat) : Int) ≤ cut) ∧ (m < i → cut < (((flatB (D.take (m + 1))).length : Nat) : Int)) ∧ (∀ d ∈ D.take i, NOK d) := hR
    obtain ⟨hr1, hr2, hr3, hr4, hr5⟩ := hR
    first | show W _ _ _ ⟨4, [(1, .i .i64 cut), (3, .p 0 0), (5, .p 1 0), (6, .p 2 0), (7, .row 3), (8, .i .i64 m), (9, .i .i64 ((flatB (D.take m)).length : Nat)), (20, .vs D.length (nts D)), (21, .i .i64 (D.length : Nat)), (22, .i .i64 i), (1000000, .rp (I .u32 nibT))], [(0, .blk 36 [.vs D.length (nts D)]), (1, .blk 5 [.i .u8 st]), (2, .blk 4 [.b false]), (3, .row 5 1 (flatB (D.take i)).length (I .u8 (flatB (D.take i))))]⟩ | skip
    refine wsr ?_
    refine wp rfl hC (ox_cmp hC rfl (.tmp rfl) (.tmp rfl) rfl rfl rfl) ?_
    refine WL_nil ?_
    refine W_seq ?_
    refine W_cond rfl (by decide) (fun hc => ?_) (fun hc => ?_)
    ·
      replace hc := lss_t hc
      have hiD : i < D.length := by omega
      obtain ⟨d, hd⟩ : ∃ d, d = D[i]'hiD := ⟨_, rfl⟩
      obtain ⟨hdi, hd8⟩ := hIds d (by rw [hd]; exact List.getElem_mem _)
      have hd42 : (nB d.id d.nx d.vo d.it).length ≤ 42 := nBd_le (d := d) hdi
      have hft : (flatB (D.take i)) ++ nB d.id d.nx d.vo d.it = (flatB (D.take (i + 1))) := by rw [hd]; exact flatB_take hiD
      have hfl : (flatB (D.take i)).length + (nB d.id d.nx d.vo d.it).length = (flatB (D.take (i + 1))).length := by rw [← hft, List.length_append]
      have hfi := flat_le (D := D.take i) (fun q hq => hIds q (List.mem_of_mem_take hq))
      have hti : (D.take i).length ≤ 40 := by rw [List.length_take]; omega
      refine W_skip ?_
      refine W_seq ?_
      refine W_blk ?_
      refine wsr ?_
      refine wp rfl hC (ox_indexS hC (j := i) (.tmp rfl) (.tmp rfl) idx_36 (by first | rfl | omega | (simp; omega)) (by first | exact Nat.mul_one _ | rfl) (by first | exact .row rfl | exact .sl (Nat.zero_add _) | exact .sl rfl | exact .vs (by first | omega | (simp <;> fail) | (simp; omega))) (by omega) rfl rfl) ?_
      refine wp rfl hC (oc_load hC (v := .ag (noteX d.id d.nx d.vo d.it)) (.tmp rfl) (by first | exact .p rfl | exact .rp) shp_25 (by exact (unit_ntd hIds hiD hd)) rfl rfl) ?_
      refine wp rfl hC (ox_alloc (cs' := noteX (List.replicate 16 0) 0 0 0) hC zero_25 (by unfold noteX; rfl) rfl rfl) ?_
      refine wp rfl hC (ox_store (bk' := .blk 25 (noteX d.id d.nx d.vo d.it)) hC (.tmp rfl) (.tmp rfl) rfl shp_25 flat_noteX (by rw [cells_ag, length_noteX hdi]) (by show _ ≤ (noteX _ _ _ _).length; rw [length_noteX rfl]; decide) (put_nall rfl hdi) (by first | exact .here | exact .s1 rfl | exact .s2 rfl rfl | exact .s3 rfl rfl rfl | exact .s4 rfl rfl rfl rfl | exact .s5 rfl rfl rfl rfl rfl | exact .s6 rfl rfl rfl rfl rfl rfl | exact .s7 rfl rfl rfl rfl rfl rfl rfl | exact .s8 rfl rfl rfl rfl rfl rfl rfl rfl) rfl) ?_
      refine WL_nil ?_
      refine W_seq ?_
      refine W_seq ?_
      rcases Classical.em (RightN d.nx d.vo d.it) with hR | hR
      ·
        have hr6 : ∀ e ∈ D.take (i + 1), NOK e := by
          intro e he
          rw [take_snoc hiD hd] at he
          rcases List.mem_append.1 he with he | he
          · exact hr5 e he
          · rw [List.mem_singleton.1 he]; exact ⟨hdi, hd8, hR⟩
        refine W_region ?_
        refine wp rfl hC (oc_load hC (.tmp rfl) (by first | exact .p rfl | exact .rp) shp_25 (by exact (unit_nall hdi)) rfl rfl) ?_
        refine wp rfl hC (oc_call hC (.cons (.tmp rfl) .nil) (.cons1 (.free (by first | exact inSL_I _ | simp)) (.same (by first | exact inSL_I _ | simp))) (ngiven_c d.id d.nx d.vo d.it hdi hd8) glob_nil (by first | exact inSL_I _ | simp) (by first | exact .inl rfl | exact .inr (by simp)) rfl rfl) ?_
        refine wp rfl hC (oc_call hC (.cons (.tmp rfl) .nil) (.cons1 (.free (by first | exact inSL_I _ | simp)) (.same (by first | exact inSL_I _ | simp))) (rnright_t d.id d.nx d.vo d.it hdi hd8 hR) glob_nil (by first | exact inSL_I _ | simp) (by first | exact .inl rfl | exact .inr (by simp)) rfl rfl) ?_
        refine wp rfl hC (oc_not hC (.tmp rfl) rfl rfl) ?_
        refine WL_nil ?_
        refine W_cond rfl (by decide) (fun hc => by cases hc) (fun _ => ?_)
        refine W_skip ?_
        refine wsr ?_
        refine wp rfl hC (oc_move hC (.tmp rfl) rfl rfl) ?_
        refine wp rfl hC (oc_load hC (.tmp rfl) (by first | exact .p rfl | exact .rp) shp_25 (by exact (unit_nall hdi)) rfl rfl) ?_
        refine wp rfl hC (oc_call hC (.cons (.tmp rfl) .nil) (.cons1 (.free (by first | exact inSL_I _ | simp)) (.same (by first | exact inSL_I _ | simp))) (ngiven_c d.id d.nx d.vo d.it hdi hd8) glob_nil (by first | exact inSL_I _ | simp) (by first | exact .inl rfl | exact .inr (by simp)) rfl rfl) ?_
        refine wp rfl hC (oc_callN hC (.cons (.tmp rfl) .nil) (.cons1 (.free (by first | exact inSL_I _ | simp)) (.same (by first | exact inSL_I _ | simp))) (rnb_c d.id d.nx d.vo d.it hdi hd8 hR) glob_nil (by first | exact inSL_I _ | simp) rfl (by first | exact .inl rfl | exact .inr ⟨by simp, novsL_I _⟩ | exact .inr ⟨by simp, by simp⟩) rfl rfl) ?_
        refine wp rfl hC (ox_append (n' := (flatB (D.take (i + 1))).length) (cs' := I .u8 (flatB (D.take (i + 1)))) hC (.tmp rfl) (.tmp rfl) (by first | exact .row rfl rfl (by first | exact .here rfl | exact .s1 rfl rfl | exact .s2 rfl rfl rfl | exact .s3 rfl rfl rfl rfl | exact .s4 rfl rfl rfl rfl rfl | exact .s5 rfl rfl rfl rfl rfl rfl | exact .s6 rfl rfl rfl rfl rfl rfl rfl | exact .s7 rfl rfl rfl rfl rfl rfl rfl rfl | exact .s8 rfl rfl rfl rfl rfl rfl rfl rfl rfl) | exact .nils) (by first | exact .row rfl | exact .vs | exact .sl rfl | exact .nils) (by first | exact hro_nil | exact hro_one rfl) Tryd.underlying22 cells_5 bytes_5 zero_5 rfl (by decide) (by rw [length_I]; omega) (by first | rfl | exact one_takeI) (by omega) ((app_I rfl).trans (by rw [hft])) (by simp only [maxLen]; omega) (by omega) rfl rfl) ?_
        refine wp rfl hC (oc_assign hC (.tmp rfl) rfl rfl) ?_
        refine WL_nil ?_
        refine W_seq ?_
        rcases (show ((((flatB (D.take (i + 1))).length : Nat) : Int) ≤ cut) ∨ (cut < (((flatB (D.take (i + 1))).length : Nat) : Int)) by omega) with hq | hq
        ·
          have hmi : m = i := by
            rcases Nat.lt_or_ge m i with g | g
            · have g2 := hr4 g
              have g3 := flat_mono (D := D) (show m + 1 ≤ i + 1 by omega)
              omega
            · omega
          refine W_region ?_
          refine wp rfl hC (oc_move hC (.tmp rfl) rfl rfl) ?_
          refine wp rfl hC (ox_len hC (.tmp rfl) (by first | exact .row rfl | exact .vs | exact .sl rfl | exact .nils) Tryd.underlying22 rfl rfl rfl) ?_
          refine wp rfl hC (oc_move hC (.tmp rfl) rfl rfl) ?_
          refine wp rfl hC (ox_cmp hC rfl (.tmp rfl) (.tmp rfl) (r := true) (by simp only [cmpI]; exact decide_eq_true (by omega)) rfl rfl) ?_
          refine WL_nil ?_
          refine W_cond rfl (by decide) (fun _ => ?_) (fun hc => by cases hc)
          refine wsr ?_
          refine wp rfl hC (oc_move hC (.tmp rfl) rfl rfl) ?_
          refine wp rfl hC (oc_bin hC rfl (.tmp rfl) .cint (r := ((m + 1 : Nat) : Int)) (nadd (y := 1) (by omega)) rfl rfl) ?_
          refine wp rfl hC (oc_assign hC (.tmp rfl) rfl rfl) ?_
          refine WL_nil ?_
          refine W_region ?_
          refine wp rfl hC (oc_move hC (.tmp rfl) rfl rfl) ?_
          refine wp rfl hC (ox_len hC (.tmp rfl) (by first | exact .row rfl | exact .vs | exact .sl rfl | exact .nils) Tryd.underlying22 rfl rfl rfl) ?_
          refine wp rfl hC (oc_assign hC (.tmp rfl) rfl rfl) ?_
          refine WL_nil ?_
          refine W_region ?_
          refine wp rfl hC (oc_bin hC rfl (.tmp rfl) .cint (by first | exact i64_add (by omega) | rfl) rfl rfl) ?_
          refine wp rfl hC (oc_move hC (.tmp rfl) rfl rfl) ?_
          refine WL_nil ?_
          exact ⟨(i + 1, m + 1), ⟨by omega, by omega, .inr (by rw [hmi]; exact hq), fun h => absurd h (by omega), hr6⟩, (weak (fun k => bif Nat.beq k 3 then 6 else k) (.cons rfl (by first | rfl | exact congrArg (AV.i _) (by omega) | exact congrArg (AV.i _) (by simp; omega)) trivial (.cons rfl (by first | rfl | simp) (by show _ < _; decide) (.cons rfl (by first | rfl | simp) (by show _ < _; decide) (.cons rfl (by first | rfl | simp) (by show _ < _; decide) (.cons rfl (by first | rfl | simp) (by show _ < _; decide) (.cons rfl rfl trivial (.cons rfl (congrArg (AV.i _) (by rw [hmi])) trivial (.cons rfl (ren_free _ _ (by simp)) (by simp) (.cons rfl (by first | rfl | exact congrArg (AV.i _) (by omega) | exact congrArg (AV.i _) (by simp; omega)) trivial (.cons rfl (by first | rfl | exact congrArg (AV.i _) (by omega) | exact congrArg (AV.i _) (by simp; omega)) trivial (.cons rfl (by first | exact ren_agI | exact ren_vsI | exact ren_free _ _ (by first | exact inSL_I _ | simp)) (by first | exact inSL_I _ | simp) .nil))))))))))) (.cons rfl (Blk.ren_free (by simp) _) rfl (by first | exact inSL_I _ | simp) (.cons rfl rfl rfl (by first | exact inSL_I _ | simp) (.cons rfl rfl rfl (by first | exact inSL_I _ | simp) (.cons rfl (renRow rfl rfl) rfl (by first | exact inSL_I _ | simp) .nil)))) rfl rfl rfl), (by show _ - (i + 1) < _; omega)⟩
        ·
          have hr4n : m < i + 1 → cut < (((flatB (D.take (m + 1))).length : Nat) : Int) := by
            intro h
            rcases Nat.lt_or_ge m i with g | g
            · exact hr4 g
            · obtain rfl : m = i := by omega
              exact hq
          refine W_region ?_
          refine wp rfl hC (oc_move hC (.tmp rfl) rfl rfl) ?_
          refine wp rfl hC (ox_len hC (.tmp rfl) (by first | exact .row rfl | exact .vs | exact .sl rfl | exact .nils) Tryd.underlying22 rfl rfl rfl) ?_
          refine wp rfl hC (oc_move hC (.tmp rfl) rfl rfl) ?_
          refine wp rfl hC (ox_cmp hC rfl (.tmp rfl) (.tmp rfl) (r := false) (by simp only [cmpI]; exact decide_eq_false (by omega)) rfl rfl) ?_
          refine WL_nil ?_
          refine W_cond rfl (by decide) (fun hc => by cases hc) (fun _ => ?_)
          refine W_skip ?_
          refine W_region ?_
          refine wp rfl hC (oc_bin hC rfl (.tmp rfl) .cint (by first | exact i64_add (by omega) | rfl) rfl rfl) ?_
          refine wp rfl hC (oc_move hC (.tmp rfl) rfl rfl) ?_
          refine WL_nil ?_
          exact ⟨(i + 1, m), ⟨by omega, by omega, hr3, hr4n, hr6⟩, (weak (fun k => bif Nat.beq k 3 then 6 else k) (.cons rfl (by first | rfl | exact congrArg (AV.i _) (by omega) | exact congrArg (AV.i _) (by simp; omega)) trivial (.cons rfl (by first | rfl | simp) (by show _ < _; decide) (.cons rfl (by first | rfl | simp) (by show _ < _; decide) (.cons rfl (by first | rfl | simp) (by show _ < _; decide) (.cons rfl (by first | rfl | simp) (by show _ < _; decide) (.cons rfl (by first | rfl | exact congrArg (AV.i _) (by omega) | exact congrArg (AV.i _) (by simp; omega)) trivial (.cons rfl (by first | rfl | exact congrArg (AV.i _) (by omega) | exact congrArg (AV.i _) (by simp; omega)) trivial (.cons rfl (ren_free _ _ (by simp)) (by simp) (.cons rfl (by first | rfl | exact congrArg (AV.i _) (by omega) | exact congrArg (AV.i _) (by simp; omega)) trivial (.cons rfl (by first | rfl | exact congrArg (AV.i _) (by omega) | exact congrArg (AV.i _) (by simp; omega)) trivial (.cons rfl (by first | exact ren_agI | exact ren_vsI | exact ren_free _ _ (by first | exact inSL_I _ | simp)) (by first | exact inSL_I _ | simp) .nil))))))))))) (.cons rfl (Blk.ren_free (by simp) _) rfl (by first | exact inSL_I _ | simp) (.cons rfl rfl rfl (by first | exact inSL_I _ | simp) (.cons rfl rfl rfl (by first | exact inSL_I _ | simp) (.cons rfl (renRow rfl rfl) rfl (by first | exact inSL_I _ | simp) .nil)))) rfl rfl rfl), (by show _ - (i + 1) < _; omega)⟩
      ·
        refine W_region ?_
        refine wp rfl hC (oc_load hC (.tmp rfl) (by first | exact .p rfl | exact .rp) shp_25 (by exact (unit_nall hdi)) rfl rfl) ?_
        refine wp rfl hC (oc_call hC (.cons (.tmp rfl) .nil) (.cons1 (.free (by first | exact inSL_I _ | simp)) (.same (by first | exact inSL_I _ | simp))) (ngiven_c d.id d.nx d.vo d.it hdi hd8) glob_nil (by first | exact inSL_I _ | simp) (by first | exact .inl rfl | exact .inr (by simp)) rfl rfl) ?_
        refine wp rfl hC (oc_call hC (.cons (.tmp rfl) .nil) (.cons1 (.free (by first | exact inSL_I _ | simp)) (.same (by first | exact inSL_I _ | simp))) (rnright_f d.id d.nx d.vo d.it hdi hd8 hR) glob_nil (by first | exact inSL_I _ | simp) (by first | exact .inl rfl | exact .inr (by simp)) rfl rfl) ?_
        refine wp rfl hC (oc_not hC (.tmp rfl) rfl rfl) ?_
        refine WL_nil ?_
        refine W_cond rfl (by decide) (fun _ => ?_) (fun hc => by cases hc)
        refine wsr ?_
        refine wp rfl hC (oc_call hC .nil (.same (by first | exact inSL_I _ | simp)) (awake18_c) (glob_cons rfl rfl (by first | exact inSL_I _ | simp) glob_nil) (by first | exact inSL_I _ | simp) (by first | exact .inl rfl | exact .inr (by simp)) rfl rfl) ?_
        refine wp rfl hC (ox_store hC (.tmp rfl) (.tmp rfl) rfl shp_4 (by first | rfl | exact flat_agI) (by first | exact cells1 rfl | (rw [cells_ag, length_I]; omega) | rfl | (simp <;> fail) | (simp; omega)) (by first | exact Nat.le_refl _ | exact Nat.le_of_ble_eq_true rfl | decide | (simp <;> fail) | (simp; omega)) (by first | exact put_one rfl | exact put_blkI (by first | omega | (simp <;> fail) | (simp; omega)) | exact put_rowI (by first | omega | (simp <;> fail) | (simp; omega)) | rfl) (by first | exact .here | exact .s1 rfl | exact .s2 rfl rfl | exact .s3 rfl rfl rfl | exact .s4 rfl rfl rfl rfl | exact .s5 rfl rfl rfl rfl rfl | exact .s6 rfl rfl rfl rfl rfl rfl | exact .s7 rfl rfl rfl rfl rfl rfl rfl | exact .s8 rfl rfl rfl rfl rfl rfl rfl rfl) rfl) ?_
        refine WL_nil ?_
        refine W_ret ?_
        exact fin0 (.cons (.cell rfl (.p rfl) shp_4 (unit_one rfl)) .nil) rfl trivial
    ·
      replace hc := lss_f hc
      obtain rfl : i = D.length := by omega
      rw [List.take_of_length_le (Nat.le_refl D.length)] at hr5 ⊢
      refine W_exit ?_
      refine W_seq ?_
      refine W_seq ?_
      rcases (show cut < 0 ∨ (0 ≤ cut ∧ (((flatB D).length : Nat) : Int) < cut) ∨ (0 ≤ cut ∧ cut ≤ (((flatB D).length : Nat) : Int)) by omega) with hq | ⟨hq, hq2⟩ | ⟨hq, hq2⟩
      ·
        refine W_region ?_
        refine wp rfl hC (oc_move hC (.tmp rfl) rfl rfl) ?_
        refine wp rfl hC (ox_cmp hC rfl (.tmp rfl) .cint (r := true) (by simp only [cmpI]; exact decide_eq_true (by omega)) rfl rfl) ?_
        refine wp rfl hC (oc_move hC (.tmp rfl) rfl rfl) ?_
        refine WL_cons hC.fn (.no (s1 := ⟨_, (48, .tu []) :: _, _⟩) rfl rfl (by decide) rfl (by decide) (fun t ht => by cases ht; exact ⟨blt_lt rfl, blt_lt rfl⟩) (fun t => setE_cons _ _ _ _) rfl rfl) ?_
        refine WL_cons hC.fn (.no (s1 := ⟨_, (49, .tu []) :: _, _⟩) rfl rfl (by decide) rfl (by decide) (fun t ht => by cases ht; exact ⟨blt_lt rfl, blt_lt rfl⟩) (fun t => setE_cons _ _ _ _) rfl rfl) ?_
        refine WL_cons hC.fn (.no (s1 := ⟨_, (50, .tu []) :: _, _⟩) rfl rfl (by decide) rfl (by decide) (fun t ht => by cases ht; exact ⟨blt_lt rfl, blt_lt rfl⟩) (fun t => setE_cons _ _ _ _) rfl rfl) ?_
        refine WL_cons hC.fn (.no (s1 := ⟨_, (51, .tu []) :: _, _⟩) rfl rfl (by decide) rfl (by decide) (fun t ht => by cases ht; exact ⟨blt_lt rfl, blt_lt rfl⟩) (fun t => setE_cons _ _ _ _) rfl rfl) ?_
        refine wp rfl hC (ox_pick hC (.tmp rfl) .cbool (.tmp rfl) (by first | exact pick_t | exact pick_f | rfl) rfl rfl) ?_
        refine WL_nil ?_
        refine W_cond rfl (by decide) (fun _ => ?_) (fun hc => by cases hc)
        refine wsr ?_
        refine wp rfl hC (oc_call hC .nil (.same (by first | exact inSL_I _ | simp)) (awake18_c) (glob_cons rfl rfl (by first | exact inSL_I _ | simp) glob_nil) (by first | exact inSL_I _ | simp) (by first | exact .inl rfl | exact .inr (by simp)) rfl rfl) ?_
        refine wp rfl hC (ox_store hC (.tmp rfl) (.tmp rfl) rfl shp_4 (by first | rfl | exact flat_agI) (by first | exact cells1 rfl | (rw [cells_ag, length_I]; omega) | rfl | (simp <;> fail) | (simp; omega)) (by first | exact Nat.le_refl _ | exact Nat.le_of_ble_eq_true rfl | decide | (simp <;> fail) | (simp; omega)) (by first | exact put_one rfl | exact put_blkI (by first | omega | (simp <;> fail) | (simp; omega)) | exact put_rowI (by first | omega | (simp <;> fail) | (simp; omega)) | rfl) (by first | exact .here | exact .s1 rfl | exact .s2 rfl rfl | exact .s3 rfl rfl rfl | exact .s4 rfl rfl rfl rfl | exact .s5 rfl rfl rfl rfl rfl | exact .s6 rfl rfl rfl rfl rfl rfl | exact .s7 rfl rfl rfl rfl rfl rfl rfl | exact .s8 rfl rfl rfl rfl rfl rfl rfl rfl) rfl) ?_
        refine WL_nil ?_
        refine W_ret ?_
        exact fin0 (.cons (.cell rfl (.p rfl) shp_4 (unit_one rfl)) .nil) rfl trivial
      ·
        refine W_region ?_
        refine wp rfl hC (oc_move hC (.tmp rfl) rfl rfl) ?_
        refine wp rfl hC (ox_cmp hC rfl (.tmp rfl) .cint (r := false) (by simp only [cmpI]; exact decide_eq_false (by omega)) rfl rfl) ?_
        refine wp rfl hC (oc_move hC (.tmp rfl) rfl rfl) ?_
        refine WL_cons hC.fn (.yes rfl rfl (by decide) rfl (oc_move hC (.tmp rfl) rfl rfl)) ?_
        refine WL_cons hC.fn (.yes rfl rfl (by decide) rfl (oc_move hC (.tmp rfl) rfl rfl)) ?_
        refine WL_cons hC.fn (.yes rfl rfl (by decide) rfl (ox_len hC (.tmp rfl) (by first | exact .row rfl | exact .vs | exact .sl rfl | exact .nils) Tryd.underlying22 rfl rfl rfl)) ?_
        refine WL_cons hC.fn (.yes rfl rfl (by decide) rfl (ox_cmp hC rfl (.tmp rfl) (.tmp rfl) (r := true) (by simp only [cmpI]; exact decide_eq_true (by omega)) rfl rfl)) ?_
        refine wp rfl hC (ox_pick hC (.tmp rfl) .cbool (.tmp rfl) (by first | exact pick_t | exact pick_f | rfl) rfl rfl) ?_
        refine WL_nil ?_
        refine W_cond rfl (by decide) (fun _ => ?_) (fun hc => by cases hc)
        refine wsr ?_
        refine wp rfl hC (oc_call hC .nil (.same (by first | exact inSL_I _ | simp)) (awake18_c) (glob_cons rfl rfl (by first | exact inSL_I _ | simp) glob_nil) (by first | exact inSL_I _ | simp) (by first | exact .inl rfl | exact .inr (by simp)) rfl rfl) ?_
        refine wp rfl hC (ox_store hC (.tmp rfl) (.tmp rfl) rfl shp_4 (by first | rfl | exact flat_agI) (by first | exact cells1 rfl | (rw [cells_ag, length_I]; omega) | rfl | (simp <;> fail) | (simp; omega)) (by first | exact Nat.le_refl _ | exact Nat.le_of_ble_eq_true rfl | decide | (simp <;> fail) | (simp; omega)) (by first | exact put_one rfl | exact put_blkI (by first | omega | (simp <;> fail) | (simp; omega)) | exact put_rowI (by first | omega | (simp <;> fail) | (simp; omega)) | rfl) (by first | exact .here | exact .s1 rfl | exact .s2 rfl rfl | exact .s3 rfl rfl rfl | exact .s4 rfl rfl rfl rfl | exact .s5 rfl rfl rfl rfl rfl | exact .s6 rfl rfl rfl rfl rfl rfl | exact .s7 rfl rfl rfl rfl rfl rfl rfl | exact .s8 rfl rfl rfl rfl rfl rfl rfl rfl) rfl) ?_
        refine WL_nil ?_
        refine W_ret ?_
        exact fin0 (.cons (.cell rfl (.p rfl) shp_4 (unit_one rfl)) .nil) rfl trivial
      ·
        have hm1 : (flatB (D.take m)).length ≤ cut.toNat := by
          rcases hr3 with rfl | g
          · rw [List.take_zero, flatB_nil]; exact Nat.zero_le _
          · omega
        obtain ⟨part, hcut, hno, br⟩ := cut_facts (c := cut.toNat) (m := m) hr5 (by omega) hr2 hm1 (fun h => by have := hr4 h; omega)
        obtain ⟨M, hM⟩ : ∃ M, M = D.take m := ⟨_, rfl⟩
        have hD : ∀ d ∈ M, NOK d := fun d hd => hr5 d (by rw [hM] at hd; exact List.mem_of_mem_take hd)
        have hMl : M.length = m := by rw [hM, List.length_take]; omega
        rw [← hM] at hcut
        have hfb := flat_le hIds
        have hcl : ((flatB D).take cut.toNat).length = cut.toNat := by rw [List.length_take]; omega
        have hl : (flatB M ++ part).length ≤ 1099511626 := by rw [← hcut]; omega
        rw [← hM]
        refine W_region ?_
        refine wp rfl hC (oc_move hC (.tmp rfl) rfl rfl) ?_
        refine wp rfl hC (ox_cmp hC rfl (.tmp rfl) .cint (r := false) (by simp only [cmpI]; exact decide_eq_false (by omega)) rfl rfl) ?_
        refine wp rfl hC (oc_move hC (.tmp rfl) rfl rfl) ?_
        refine WL_cons hC.fn (.yes rfl rfl (by decide) rfl (oc_move hC (.tmp rfl) rfl rfl)) ?_
        refine WL_cons hC.fn (.yes rfl rfl (by decide) rfl (oc_move hC (.tmp rfl) rfl rfl)) ?_
        refine WL_cons hC.fn (.yes rfl rfl (by decide) rfl (ox_len hC (.tmp rfl) (by first | exact .row rfl | exact .vs | exact .sl rfl | exact .nils) Tryd.underlying22 rfl rfl rfl)) ?_
        refine WL_cons hC.fn (.yes rfl rfl (by decide) rfl (ox_cmp hC rfl (.tmp rfl) (.tmp rfl) (r := false) (by simp only [cmpI]; exact decide_eq_false (by omega)) rfl rfl)) ?_
        refine wp rfl hC (ox_pick hC (.tmp rfl) .cbool (.tmp rfl) (by first | exact pick_t | exact pick_f | rfl) rfl rfl) ?_
        refine WL_nil ?_
        refine W_cond rfl (by decide) (fun hc => by cases hc) (fun _ => ?_)
        refine W_skip ?_
        refine wsr ?_
        refine WL_weak (weak_frz (t := 7) (b := (flatB D)) rfl rfl (.there (.there (.there (.here rfl) rfl) rfl) rfl) rfl) ?_
        refine wp rfl hC (oc_move hC (.tmp rfl) rfl rfl) ?_
        refine wp rfl hC (oc_move hC (.tmp rfl) rfl rfl) ?_
        refine wp rfl hC (ox_cutS (u' := .vs ((flatB D).take cut.toNat).length (I .u8 ((flatB D).take cut.toNat))) hC (.tmp rfl) .no (.yes (n := cut.toNat) (.tmp rfl) (by omega)) idx_22 (by first | exact .row rfl (Nat.mul_one _) | exact .sl rfl | exact .vs (by first | omega | (simp <;> fail) | (simp; omega)) | exact .nils) (by first | omega | (simp <;> fail) | (simp; omega)) (by first | omega | (simp <;> fail) | (simp; omega)) (by rw [cut_vsI, Nat.sub_zero, List.drop_zero, hcl]) rfl rfl) ?_
        refine wp rfl hC (oc_callN hC (.cons (.tmp rfl) .nil) (.cons1 (by first | exact .free (by first | exact inSL_I _ | simp) | exact .row rfl rfl (by first | exact inSL_I _ | simp) | exact .nils | exact .sl1 rfl (by first | exact cut_I | rfl) (by first | exact inSL_I _ | simp)) (.same (by first | exact inSL_I _ | simp))) (scan_s ((flatB D).take cut.toNat) M part hcut hD br hno (by omega)) (glob_cons rfl rfl (by first | exact inSL_I _ | simp) glob_nil) (by first | exact inSL_I _ | simp) rfl (by first | exact .inl rfl | exact .inr ⟨by simp, novsL_I _⟩ | exact .inr ⟨by simp, by simp⟩) rfl rfl) ?_
        refine wp rfl hC (oc_move hC (.tmp rfl) rfl rfl) ?_
        refine wp rfl hC (oc_extract hC (.tmp rfl) rfl rfl rfl) ?_
        refine wp rfl hC (oc_extract hC (.tmp rfl) rfl rfl rfl) ?_
        refine wp rfl hC (ox_alloc hC zero_36 rfl rfl rfl) ?_
        refine wp rfl hC (ox_store hC (.tmp rfl) (.tmp rfl) rfl shp_36 (by first | rfl | exact flat_agI) (by first | exact cells1 rfl | (rw [cells_ag, length_I]; omega) | rfl | (simp <;> fail) | (simp; omega)) (by first | exact Nat.le_refl _ | exact Nat.le_of_ble_eq_true rfl | decide | (simp <;> fail) | (simp; omega)) (by first | exact put_one rfl | exact put_blkI (by first | omega | (simp <;> fail) | (simp; omega)) | exact put_rowI (by first | omega | (simp <;> fail) | (simp; omega)) | rfl) (by first | exact .here | exact .s1 rfl | exact .s2 rfl rfl | exact .s3 rfl rfl rfl | exact .s4 rfl rfl rfl rfl | exact .s5 rfl rfl rfl rfl rfl | exact .s6 rfl rfl rfl rfl rfl rfl | exact .s7 rfl rfl rfl rfl rfl rfl rfl | exact .s8 rfl rfl rfl rfl rfl rfl rfl rfl) rfl) ?_
        refine wp rfl hC (oc_assign hC (.tmp rfl) rfl rfl) ?_
        refine WL_nil ?_
        refine W_seq ?_
        refine wsr ?_
        refine wp rfl hC (oc_load hC (.tmp rfl) (by first | exact .p rfl | exact .rp) shp_36 (by first | exact unit_one rfl | exact unit_I (by first | omega | (simp <;> fail) | (simp; omega)) | exact unit_c rfl (by decide) | exact unit_c rfl (by simp)) rfl rfl) ?_
        refine wp rfl hC (ox_len hC (.tmp rfl) (by first | exact .row rfl | exact .vs | exact .sl rfl | exact .nils) Tryd.underlying36 rfl rfl rfl) ?_
        refine wp rfl hC (oc_move hC (.tmp rfl) rfl rfl) ?_
        refine wp rfl hC (ox_cmp hC rfl (.tmp rfl) (.tmp rfl) (r := false) (by simp only [cmpI]; exact decide_eq_false (by omega)) rfl rfl) ?_
        refine wp rfl hC (oc_move hC (.tmp rfl) rfl rfl) ?_
        refine WL_cons hC.fn (.yes rfl rfl (by decide) rfl (oc_move hC (.tmp rfl) rfl rfl)) ?_
        refine WL_cons hC.fn (.yes rfl rfl (by decide) rfl (oc_move hC (.tmp rfl) rfl rfl)) ?_
        refine WL_cons hC.fn (.yes rfl rfl (by decide) rfl (ox_cmp hC rfl (.tmp rfl) (.tmp rfl) (r := false) (by simp only [cmpI]; exact decide_eq_false (by omega)) rfl rfl)) ?_
        refine wp rfl hC (ox_pick hC (.tmp rfl) .cbool (.tmp rfl) (by first | exact pick_t | exact pick_f | rfl) rfl rfl) ?_
        refine WL_nil ?_
        refine W_cond rfl (by decide) (fun hc => by cases hc) (fun _ => ?_)
        refine W_skip ?_
        refine wsr ?_
        refine wp rfl hC (ox_alloc hC zero_3 rfl rfl rfl) ?_
        refine wp rfl hC (ox_store hC (.tmp rfl) .cint rfl shp_3 (by first | rfl | exact flat_agI) (by first | exact cells1 rfl | (rw [cells_ag, length_I]; omega) | rfl | (simp <;> fail) | (simp; omega)) (by first | exact Nat.le_refl _ | exact Nat.le_of_ble_eq_true rfl | decide | (simp <;> fail) | (simp; omega)) (by first | exact put_one rfl | exact put_blkI (by first | omega | (simp <;> fail) | (simp; omega)) | exact put_rowI (by first | omega | (simp <;> fail) | (simp; omega)) | rfl) (by first | exact .here | exact .s1 rfl | exact .s2 rfl rfl | exact .s3 rfl rfl rfl | exact .s4 rfl rfl rfl rfl | exact .s5 rfl rfl rfl rfl rfl | exact .s6 rfl rfl rfl rfl rfl rfl | exact .s7 rfl rfl rfl rfl rfl rfl rfl | exact .s8 rfl rfl rfl rfl rfl rfl rfl rfl) rfl) ?_
        refine WL_nil ?_
        refine W_seq ?_
        refine wsr ?_
        refine wp rfl hC (oc_move hC (.tmp rfl) rfl rfl) ?_
        refine wp rfl hC (oc_move hC (.tmp rfl) rfl rfl) ?_
        refine wp rfl hC (ox_cutS (u' := .vs ((flatB D).take cut.toNat).length (I .u8 ((flatB D).take cut.toNat))) hC (.tmp rfl) .no (.yes (n := cut.toNat) (.tmp rfl) (by omega)) idx_22 (by first | exact .row rfl (Nat.mul_one _) | exact .sl rfl | exact .vs (by first | omega | (simp <;> fail) | (simp; omega)) | exact .nils) (by first | omega | (simp <;> fail) | (simp; omega)) (by first | omega | (simp <;> fail) | (simp; omega)) (by rw [cut_vsI, Nat.sub_zero, List.drop_zero, hcl]) rfl rfl) ?_
        refine wp rfl hC (oc_callG (v' := .f 25 [.p 7 0]) (τ := fun k => bif Nat.beq k 0 then 7 else k) (N' := 8) hC .func (.cons (.tmp rfl) .nil) (.v1 (by first | exact .free (by first | exact inSL_I _ | simp) | exact .row rfl rfl (by first | exact inSL_I _ | simp) | exact .nils | exact .sl1 rfl (by first | exact cut_I | rfl) (by first | exact inSL_I _ | simp)) .end) (notes_c _ _ rfl (by omega)) glob_nil mr_nil (mr_cons (by first | exact ren_blkI | exact ren_rowI | exact Blk.ren_free (by simp) _ | rfl) rfl mr_nil) rfl rd_nil rfl rfl rfl rfl (by first | exact .inl rfl | exact .inr ⟨by simp, (nv_cons (by first | exact novsL_I _ | simp) nv_nil)⟩) rfl (dst_ok rfl rfl) (fun t => setE_cons _ _ _ _)) ?_
        refine WL_nil ?_
        refine W_blk ?_
        refine W_range (T := 28) (G := [(1000000, .rp (I .u32 nibT))]) [0, 1, 2, 3, 4, 5, 6, 7] hC hro rfl rfl rfl rfl Tryd.func25 rfl rfl (by decide) rfl rfl rfl (glob_cons rfl rfl (by first | exact inSL_I _ | simp) glob_nil) rfl (by simp) (fun k hk => by first | exact absurd hk (Nat.not_lt_zero _) | (have hk2 : k < 0 := hk; have : k = 0 ∨ k = 1 ∨ k = 2 ∨ k = 3 := (by omega); rcases this with rfl | rfl | rfl | rfl <;> first | decide | omega)) (by show ∀ k ∈ _, k < 8; decide) (fun ρ1 w1 H1 l1 r1 hI1 hR1 => ?_)
        refine wsr ?_
        refine WL_cons hI1.fn (.plain rfl (oc_load hI1 (.tmp rfl) (by first | exact .p rfl | exact .rp) shp_22 (by first | exact unit_one rfl | exact unit_I (by first | omega | (simp <;> fail) | (simp; omega)) | exact unit_c rfl (by decide) | exact unit_c rfl (by simp)) rfl rfl)) ?_
        refine WL_cons hI1.fn (.plain rfl (oc_assign hI1 (.tmp rfl) rfl rfl)) ?_
        refine WL_nil ?_
        refine W_blk ?_
        refine W_loopW (fun (ζ : Nat) => ⟨8, [(3, .vs (flatB (M.drop ζ) ++ part).length (I .u8 (flatB (M.drop ζ) ++ part))), (0, .f (1000000000 + l1) []), (1, .p 7 0), (1000000, .rp (I .u32 nibT)), (5000000, .rp [])], [(0, .blk 36 [.vs D.length (nts D)]), (1, .blk 5 [.i .u8 st]), (2, .blk 4 [.b false]), (4, .row 25 19 M.length (nts M)), (5, .blk 36 [.row 4]), (6, .blk 3 [.i .i64 ζ]), (7, .blk 22 [.vs ((flatB D).take cut.toNat).length (I .u8 ((flatB D).take cut.toNat))])]⟩) (fun ζ => ζ ≤ M.length ∧ ζ ≤ st) (fun ζ => M.length - ζ) (0) ⟨Nat.zero_le _, Nat.zero_le _⟩ (weakK (fun k => k) (.cons rfl (ren_vsI.trans (by rw [List.drop_zero, ← hcut])) (by first | exact inSL_I _ | simp) (.cons rfl (by first | exact ren_agI | exact ren_vsI | exact ren_free _ _ (by first | exact inSL_I _ | simp)) (by first | exact inSL_I _ | simp) (.cons rfl (by first | rfl | simp) (by show _ < _; decide) (.cons rfl (by first | exact ren_agI | exact ren_vsI | exact ren_free _ _ (by first | exact inSL_I _ | simp)) (by first | exact inSL_I _ | simp) (.cons rfl (by first | exact ren_agI | exact ren_vsI | exact ren_free _ _ (by first | exact inSL_I _ | simp)) (by first | exact inSL_I _ | simp) .nil))))) (.cons rfl (Blk.ren_free (by simp) _) rfl (by first | exact inSL_I _ | simp) (.cons rfl rfl rfl (by first | exact inSL_I _ | simp) (.cons rfl rfl rfl (by first | exact inSL_I _ | simp) (.cons rfl (Blk.ren_free (by simp) _) rfl (by first | exact inSL_I _ | simp) (.cons rfl rfl rfl (by first | exact inSL_I _ | simp) (.cons rfl rfl rfl (by first | exact inSL_I _ | simp) (.cons rfl (Blk.ren_free (by simp) _) rfl (by first | exact inSL_I _ | simp) .nil))))))) rfl rfl rfl) ?_
        intro i hR
        replace hR : i ≤ M.length ∧ i ≤ st := hR
        first | show W _ _ _ ⟨8, [(3, .vs (flatB (M.drop i) ++ part).length (I .u8 (flatB (M.drop i) ++ part))), (0, .f (1000000000 + l1) []), (1, .p 7 0), (1000000, .rp (I .u32 nibT)), (5000000, .rp [])], [(0, .blk 36 [.vs D.length (nts D)]), (1, .blk 5 [.i .u8 st]), (2, .blk 4 [.b false]), (4, .row 25 19 M.length (nts M)), (5, .blk 36 [.row 4]), (6, .blk 3 [.i .i64 i]), (7, .blk 22 [.vs ((flatB D).take cut.toNat).length (I .u8 ((flatB D).take cut.toNat))])]⟩ | skip
        refine W_blk ?_
        refine W_seq ?_
        rcases (show i < M.length ∨ i = M.length by omega) with hiD | hiD
        ·
          obtain ⟨d, hd⟩ : ∃ d, d = M[i]'hiD := ⟨_, rfl⟩
          have hdk : NOK d := by rw [hd]; exact hD _ (List.getElem_mem _)
          obtain ⟨hdi, hd8, hdr⟩ := hdk
          have hdk : NOK d := ⟨hdi, hd8, hdr⟩
          have hS : flatB (M.drop i) ++ part = nBd d ++ (flatB (M.drop (i + 1)) ++ part) := by rw [flatB_drop hiD, ← hd, List.append_assoc]
          have hlS : (flatB (M.drop i)).length ≤ (flatB M).length := by
            conv => rhs; rw [← List.take_append_drop i M, flatB_append, List.length_append]
            omega
          have hlS1 : (flatB (M.drop (i + 1))).length ≤ (flatB M).length := by
            conv => rhs; rw [← List.take_append_drop (i + 1) M, flatB_append, List.length_append]
            omega
          have hb1 : B8 (flatB (M.drop (i + 1)) ++ part) := B8_append (B8_flatB fun e he => hD e (List.mem_of_mem_drop he)) br
          have hl1 : (flatB (M.drop (i + 1)) ++ part).length ≤ 1099511626 := by
            rw [List.length_append] at hl ⊢
            omega
          have hl0 : (nBd d ++ (flatB (M.drop (i + 1)) ++ part)).length ≤ 1099511626 := by
            rw [← hS]
            rw [List.length_append] at hl ⊢
            omega
          rw [hS]
          have hdD : d = D[i]'(by omega) := by rw [hd]; simp only [hM]; exact List.getElem_take
          have hwf := right_wf hdr
          have hMI := Ids.of hD
          refine W_region ?_
          refine WL_cons hI1.fn (.plain rfl (oc_move hI1 (.tmp rfl) rfl rfl)) ?_
          refine WL_cons hI1.fn (.plain rfl (oc_call hI1 (.cons (.tmp rfl) .nil) (.cons1 (by first | exact .free (by first | exact inSL_I _ | simp) | exact .row rfl rfl (by first | exact inSL_I _ | simp) | exact .nils | exact .sl1 rfl (by first | exact cut_I | rfl) (by first | exact inSL_I _ | simp)) (.same (by first | exact inSL_I _ | simp))) (nread_ok d (flatB (M.drop (i + 1)) ++ part) hdk hb1 (by omega)) (glob_cons rfl rfl (by first | exact inSL_I _ | simp) glob_nil) (by first | exact inSL_I _ | simp) (by first | exact .inl rfl | exact .inr (by simp)) rfl rfl)) ?_
          refine WL_cons hI1.fn (.plain rfl (oc_move hI1 (.tmp rfl) rfl rfl)) ?_
          refine WL_cons hI1.fn (.plain rfl (oc_extract hI1 (.tmp rfl) rfl rfl rfl)) ?_
          refine WL_cons hI1.fn (.plain rfl (oc_extract hI1 (.tmp rfl) rfl rfl rfl)) ?_
          refine WL_cons hI1.fn (.plain rfl (oc_extract hI1 (.tmp rfl) rfl rfl rfl)) ?_
          refine WL_cons hI1.fn (.plain rfl (ox_alloc (cs' := noteX (List.replicate 16 0) 0 0 0) hI1 zero_25 (by unfold noteX; rfl) rfl rfl)) ?_
          refine WL_cons hI1.fn (.plain rfl (ox_store (bk' := .blk 25 (noteX d.id d.nx d.vo d.it)) hI1 (.tmp rfl) (.tmp rfl) rfl shp_25 flat_noteX (by rw [cells_ag, length_noteX hdi]) (by show _ ≤ (noteX _ _ _ _).length; rw [length_noteX rfl]; decide) (put_nall rfl hdi) (by first | exact .here | exact .s1 rfl | exact .s2 rfl rfl | exact .s3 rfl rfl rfl | exact .s4 rfl rfl rfl rfl | exact .s5 rfl rfl rfl rfl rfl | exact .s6 rfl rfl rfl rfl rfl rfl | exact .s7 rfl rfl rfl rfl rfl rfl rfl | exact .s8 rfl rfl rfl rfl rfl rfl rfl rfl) rfl)) ?_
          refine WL_cons hI1.fn (.plain rfl (oc_assign hI1 (.tmp rfl) rfl rfl)) ?_
          refine WL_cons hI1.fn (.plain rfl (oc_assign hI1 (.tmp rfl) rfl rfl)) ?_
          refine WL_nil ?_
          refine W_seq ?_
          refine wsr ?_
          refine WL_cons hI1.fn (.plain rfl (oc_move hI1 (.tmp rfl) rfl rfl)) ?_
          refine WL_cons hI1.fn (.plain rfl (oc_not hI1 (.tmp rfl) rfl rfl)) ?_
          refine WL_cons hI1.fn (.plain rfl (oc_move hI1 (.tmp rfl) rfl rfl)) ?_
          refine WL_cons hI1.fn (.yes rfl rfl (by decide) rfl (oc_move hI1 (.tmp rfl) rfl rfl)) ?_
          refine WL_cons hI1.fn (.yes rfl rfl (by decide) rfl (oc_load hI1 (.tmp rfl) (by first | exact .p rfl | exact .rp) shp_25 (by exact (unit_nall hdi)) rfl rfl)) ?_
          refine WL_yieldG [0, 1, 2, 3, 4, 5, 6, 7, 8] rfl rfl (by decide) rfl hR1 hI1 rfl rfl (.cons (.tmp rfl) .nil) rfl rfl rfl rfl rfl rfl (by decide) (by simp) (by show ∀ k ∈ _, k < 9; decide) (fun ρb wb Hb hB => ?_)
          refine W_region ?_
          refine WL_cons hB.fn (.plain rfl (ox_alloc (cs' := noteX (List.replicate 16 0) 0 0 0) hB zero_25 (by unfold noteX; rfl) rfl rfl)) ?_
          refine WL_cons hB.fn (.plain rfl (ox_store (bk' := .blk 25 (noteX d.id d.nx d.vo d.it)) hB (.tmp rfl) (.tmp rfl) rfl shp_25 flat_noteX (by rw [cells_ag, length_noteX hdi]) (by show _ ≤ (noteX _ _ _ _).length; rw [length_noteX rfl]; decide) (put_nall rfl hdi) (by first | exact .here | exact .s1 rfl | exact .s2 rfl rfl | exact .s3 rfl rfl rfl | exact .s4 rfl rfl rfl rfl | exact .s5 rfl rfl rfl rfl rfl | exact .s6 rfl rfl rfl rfl rfl rfl | exact .s7 rfl rfl rfl rfl rfl rfl rfl | exact .s8 rfl rfl rfl rfl rfl rfl rfl rfl) rfl)) ?_
          refine WL_nil ?_
          refine ⟨rfl, ?_⟩
          refine W_blk ?_
          refine W_seq ?_
          refine W_seq ?_
          refine W_drawD hB ?_
          refine WD_cons (.plain rfl (oc_load hB (.tmp rfl) (by first | exact .p rfl | exact .rp) shp_25 (by exact (unit_nall hdi)) rfl rfl)) ?_
          refine WD_cons (.plain rfl (oc_load hB (.tmp rfl) (by first | exact .p rfl | exact .rp) shp_36 (by first | exact unit_one rfl | exact unit_I (by first | omega | (simp <;> fail) | (simp; omega)) | exact unit_c rfl (by decide) | exact unit_c rfl (by simp)) rfl rfl)) ?_
          refine WD_cons (.plain rfl (oc_load hB (.tmp rfl) (by first | exact .p rfl | exact .rp) shp_3 (by first | exact unit_one rfl | exact unit_I (by first | omega | (simp <;> fail) | (simp; omega)) | exact unit_c rfl (by decide) | exact unit_c rfl (by simp)) rfl rfl)) ?_
          refine WD_cons (.plain rfl (ox_indexS hB (j := i) (.tmp rfl) (.tmp rfl) idx_36 (by first | rfl | omega | (simp; omega)) (by first | exact Nat.mul_one _ | rfl) (by first | exact .row rfl | exact .sl (Nat.zero_add _) | exact .sl rfl | exact .vs (by first | omega | (simp <;> fail) | (simp; omega))) (by omega) rfl rfl)) ?_
          refine WD_cons (.plain rfl (oc_load hB (v := .ag (noteX d.id d.nx d.vo d.it)) (.tmp rfl) (by first | exact .p rfl | exact .rp) shp_25 (by exact (unit_ntd hIds (by omega) hdD)) rfl rfl)) ?_
          refine WD_cons (.plain rfl (ox_eqS (r := false) hB (.inr rfl) (.tmp rfl) (.tmp rfl) sh_25 kt_25 sg_25 eg_25 (by simp [Sh.plain, Sh.plainL]) (note_has hdi hd8 hwf) (note_has hdi hd8 hwf) (by simp) rfl rfl)) ?_
          refine WD_cons (.plain rfl (oc_move hB (.tmp rfl) rfl rfl)) ?_
          refine WD_cons (.yes rfl rfl (by decide) rfl (oc_load hB (.tmp rfl) (by first | exact .p rfl | exact .rp) shp_25 (by exact (unit_nall hdi)) rfl rfl)) ?_
          refine WD_cons (.yes rfl rfl (by decide) rfl (oc_load hB (.tmp rfl) (by first | exact .p rfl | exact .rp) shp_36 (by first | exact unit_one rfl | exact unit_I (by first | omega | (simp <;> fail) | (simp; omega)) | exact unit_c rfl (by decide) | exact unit_c rfl (by simp)) rfl rfl)) ?_
          refine WD_cons (.yes rfl rfl (by decide) rfl (oc_load hB (.tmp rfl) (by first | exact .p rfl | exact .rp) shp_3 (by first | exact unit_one rfl | exact unit_I (by first | omega | (simp <;> fail) | (simp; omega)) | exact unit_c rfl (by decide) | exact unit_c rfl (by simp)) rfl rfl)) ?_
          refine WD_cons (.yes rfl rfl (by decide) rfl (ox_indexS hB (j := i) (.tmp rfl) (.tmp rfl) idx_36 (by first | rfl | omega | (simp; omega)) (by first | exact Nat.mul_one _ | rfl) (by first | exact .row rfl | exact .sl (Nat.zero_add _) | exact .sl rfl | exact .vs (by first | omega | (simp <;> fail) | (simp; omega))) (by omega) rfl rfl)) ?_
          refine WD_cons (.yes rfl rfl (by decide) rfl (oc_load hB (v := .ag (noteX d.id d.nx d.vo d.it)) (.tmp rfl) (by first | exact .p rfl | exact .rp) shp_25 (by exact (unit_ntd hMI hiD hd)) rfl rfl)) ?_
          refine WD_cons (.yes rfl rfl (by decide) rfl (ox_eqS (r := false) hB (.inr rfl) (.tmp rfl) (.tmp rfl) sh_25 kt_25 sg_25 eg_25 (by simp [Sh.plain, Sh.plainL]) (note_has hdi hd8 hwf) (note_has hdi hd8 hwf) (by simp) rfl rfl)) ?_
          refine WD_cons (.plain rfl (ox_pick hB (.tmp rfl) .cbool (.tmp rfl) (by first | exact pick_t | exact pick_f | rfl) rfl rfl)) ?_
          refine WD_nil (by kernel_rfl) ?_
          refine W_cond rfl (by decide) (fun hc => by cases hc) (fun _ => ?_)
          refine W_skip ?_
          refine wsr ?_
          refine WL_cons hB.fn (.plain rfl (oc_load hB (.tmp rfl) (by first | exact .p rfl | exact .rp) shp_3 (by first | exact unit_one rfl | exact unit_I (by first | omega | (simp <;> fail) | (simp; omega)) | exact unit_c rfl (by decide) | exact unit_c rfl (by simp)) rfl rfl)) ?_
          refine WL_cons hB.fn (.plain rfl (oc_bin hB rfl (.tmp rfl) .cint (r := ((i + 1 : Nat) : Int)) (nadd (y := 1) (by omega)) rfl rfl)) ?_
          refine WL_cons hB.fn (.plain rfl (ox_store hB (.tmp rfl) (.tmp rfl) rfl shp_3 (by first | rfl | exact flat_agI) (by first | exact cells1 rfl | (rw [cells_ag, length_I]; omega) | rfl | (simp <;> fail) | (simp; omega)) (by first | exact Nat.le_refl _ | exact Nat.le_of_ble_eq_true rfl | decide | (simp <;> fail) | (simp; omega)) (by first | exact put_one rfl | exact put_blkI (by first | omega | (simp <;> fail) | (simp; omega)) | exact put_rowI (by first | omega | (simp <;> fail) | (simp; omega)) | rfl) (by first | exact .here | exact .s1 rfl | exact .s2 rfl rfl | exact .s3 rfl rfl rfl | exact .s4 rfl rfl rfl rfl | exact .s5 rfl rfl rfl rfl rfl | exact .s6 rfl rfl rfl rfl rfl rfl | exact .s7 rfl rfl rfl rfl rfl rfl rfl | exact .s8 rfl rfl rfl rfl rfl rfl rfl rfl) rfl)) ?_
          refine WL_nil ?_
          refine W_seq ?_
          rcases Nat.lt_or_ge st (i + 1) with hq | hq
          ·
            refine W_region ?_
            refine WL_cons hB.fn (.plain rfl (oc_load hB (.tmp rfl) (by first | exact .p rfl | exact .rp) shp_3 (by first | exact unit_one rfl | exact unit_I (by first | omega | (simp <;> fail) | (simp; omega)) | exact unit_c rfl (by decide) | exact unit_c rfl (by simp)) rfl rfl)) ?_
            refine WL_cons hB.fn (.plain rfl (oc_load hB (.tmp rfl) (by first | exact .p rfl | exact .rp) shp_5 (by first | exact unit_one rfl | exact unit_I (by first | omega | (simp <;> fail) | (simp; omega)) | exact unit_c rfl (by decide) | exact unit_c rfl (by simp)) rfl rfl)) ?_
            refine WL_cons hB.fn (.plain rfl (oc_conv hB (.tmp rfl) rfl Tryd.underlying3 (r := ((st : Nat) : Int)) (i64_conv (by omega)) rfl rfl)) ?_
            refine WL_cons hB.fn (.plain rfl (ox_cmp hB rfl (.tmp rfl) (.tmp rfl) (r := true) (by simp only [cmpI]; exact decide_eq_true (by omega)) rfl rfl)) ?_
            refine WL_nil ?_
            refine W_cond rfl (by decide) (fun _ => ?_) (fun hc => by cases hc)
            refine W_exit ?_
            refine rd_x (by rfl) ?_
            refine WL_cons hI1.fn (.yes rfl rfl (by decide) rfl (oc_not hI1 (.tmp rfl) rfl rfl)) ?_
            refine WL_cons hI1.fn (.plain rfl (ox_pick hI1 (.tmp rfl) .cbool (.tmp rfl) (by first | exact pick_t | exact pick_f | rfl) rfl rfl)) ?_
            refine WL_nil ?_
            refine W_cond rfl (by decide) (fun _ => ?_) (fun hc => by cases hc)
            refine W_ret ?_
            refine rq_x 2 (.inr rfl) (by rfl) ?_
            refine wsr ?_
            refine wp rfl hC (oc_load hC (.tmp rfl) (by first | exact .p rfl | exact .rp) shp_3 (by first | exact unit_one rfl | exact unit_I (by first | omega | (simp <;> fail) | (simp; omega)) | exact unit_c rfl (by decide) | exact unit_c rfl (by simp)) rfl rfl) ?_
            refine wp rfl hC (oc_move hC (.tmp rfl) rfl rfl) ?_
            refine wp rfl hC (oc_load hC (.tmp rfl) (by first | exact .p rfl | exact .rp) shp_5 (by first | exact unit_one rfl | exact unit_I (by first | omega | (simp <;> fail) | (simp; omega)) | exact unit_c rfl (by decide) | exact unit_c rfl (by simp)) rfl rfl) ?_
            refine wp rfl hC (oc_conv hC (.tmp rfl) rfl Tryd.underlying3 (r := ((st : Nat) : Int)) (i64_conv (by omega)) rfl rfl) ?_
            refine wp rfl hC (oc_bin hC rfl (.tmp rfl) .cint (r := ((st + 1 : Nat) : Int)) (nadd (y := 1) (by omega)) rfl rfl) ?_
            refine wp rfl hC (ox_min hC (.tmp rfl) (.tmp rfl) (r := ((min m (st + 1) : Nat) : Int)) (by omega) rfl rfl) ?_
            refine wp rfl hC (ox_cmp hC rfl (.tmp rfl) (.tmp rfl) (r := true) (by simp only [cmpI]; exact decide_eq_true (by omega)) rfl rfl) ?_
            refine wp rfl hC (oc_move hC (.tmp rfl) rfl rfl) ?_
            refine WL_cons hC.fn (.yes rfl rfl (by decide) rfl (oc_call hC .nil (.same (by first | exact inSL_I _ | simp)) (awake18_c) (glob_cons rfl rfl (by first | exact inSL_I _ | simp) glob_nil) (by first | exact inSL_I _ | simp) (by first | exact .inl rfl | exact .inr (by simp)) rfl rfl)) ?_
            refine wp rfl hC (ox_pick hC (.tmp rfl) (.tmp rfl) .cbool (by first | exact pick_t | exact pick_f | rfl) rfl rfl) ?_
            refine wp rfl hC (ox_store hC (.tmp rfl) (.tmp rfl) rfl shp_4 (by first | rfl | exact flat_agI) (by first | exact cells1 rfl | (rw [cells_ag, length_I]; omega) | rfl | (simp <;> fail) | (simp; omega)) (by first | exact Nat.le_refl _ | exact Nat.le_of_ble_eq_true rfl | decide | (simp <;> fail) | (simp; omega)) (by first | exact put_one rfl | exact put_blkI (by first | omega | (simp <;> fail) | (simp; omega)) | exact put_rowI (by first | omega | (simp <;> fail) | (simp; omega)) | rfl) (by first | exact .here | exact .s1 rfl | exact .s2 rfl rfl | exact .s3 rfl rfl rfl | exact .s4 rfl rfl rfl rfl | exact .s5 rfl rfl rfl rfl rfl | exact .s6 rfl rfl rfl rfl rfl rfl | exact .s7 rfl rfl rfl rfl rfl rfl rfl | exact .s8 rfl rfl rfl rfl rfl rfl rfl rfl) rfl) ?_
            refine WL_nil ?_
            refine W_ret ?_
            exact fin0 (.cons (.cell rfl (.p rfl) shp_4 (unit_one rfl)) .nil) rfl trivial
          ·
            refine W_region ?_
            refine WL_cons hB.fn (.plain rfl (oc_load hB (.tmp rfl) (by first | exact .p rfl | exact .rp) shp_3 (by first | exact unit_one rfl | exact unit_I (by first | omega | (simp <;> fail) | (simp; omega)) | exact unit_c rfl (by decide) | exact unit_c rfl (by simp)) rfl rfl)) ?_
            refine WL_cons hB.fn (.plain rfl (oc_load hB (.tmp rfl) (by first | exact .p rfl | exact .rp) shp_5 (by first | exact unit_one rfl | exact unit_I (by first | omega | (simp <;> fail) | (simp; omega)) | exact unit_c rfl (by decide) | exact unit_c rfl (by simp)) rfl rfl)) ?_
            refine WL_cons hB.fn (.plain rfl (oc_conv hB (.tmp rfl) rfl Tryd.underlying3 (r := ((st : Nat) : Int)) (i64_conv (by omega)) rfl rfl)) ?_
            refine WL_cons hB.fn (.plain rfl (ox_cmp hB rfl (.tmp rfl) (.tmp rfl) (r := false) (by simp only [cmpI]; exact decide_eq_false (by omega)) rfl rfl)) ?_
            refine WL_nil ?_
            refine W_cond rfl (by decide) (fun hc => by cases hc) (fun _ => ?_)
            refine W_skip ?_
            refine rd_n (by rfl) ?_
            refine WL_cons hI1.fn (.yes rfl rfl (by decide) rfl (oc_not hI1 (.tmp rfl) rfl rfl)) ?_
            refine WL_cons hI1.fn (.plain rfl (ox_pick hI1 (.tmp rfl) .cbool (.tmp rfl) (by first | exact pick_t | exact pick_f | rfl) rfl rfl)) ?_
            refine WL_nil ?_
            refine W_cond rfl (by decide) (fun hc => by cases hc) (fun _ => ?_)
            refine W_skip ?_
            refine W_region ?_
            refine WL_cons hI1.fn (.plain rfl (oc_move hI1 (.tmp rfl) rfl rfl)) ?_
            refine WL_cons hI1.fn (.plain rfl (oc_move hI1 (.tmp rfl) rfl rfl)) ?_
            refine WL_cons hI1.fn (.plain rfl (ox_len hI1 (.tmp rfl) (by first | exact .row rfl | exact .vs | exact .sl rfl | exact .nils) Tryd.underlying22 rfl rfl rfl)) ?_
            refine WL_cons hI1.fn (.plain rfl (oc_move hI1 (.tmp rfl) rfl rfl)) ?_
            refine WL_cons hI1.fn (.plain rfl (oc_bin hI1 rfl (.tmp rfl) (.tmp rfl) (r := (((nBd d).length : Nat) : Int)) ((i64_sub (by rw [List.length_append] at *; omega)).trans (by rw [List.length_append]; omega)) rfl rfl)) ?_
            refine WL_cons hI1.fn (.plain rfl (ox_cutS (u' := .vs (flatB (M.drop (i + 1)) ++ part).length (I .u8 (flatB (M.drop (i + 1)) ++ part))) hI1 (.tmp rfl) (.yes (n := (nBd d).length) (.tmp rfl) (by first | rfl | omega)) .no idx_22 (by first | exact .row rfl (Nat.mul_one _) | exact .sl rfl | exact .vs (by first | omega | (simp <;> fail) | (simp; omega)) | exact .nils) (by rw [List.length_append]; omega) (by first | omega | (simp <;> fail) | (simp; omega)) (by rw [cut_vsI]; exact cut_app) rfl rfl)) ?_
            refine WL_cons hI1.fn (.plain rfl (oc_assign hI1 (.tmp rfl) rfl rfl)) ?_
            refine WL_nil ?_
            exact ⟨(i + 1), ⟨by omega, by omega⟩, (weakK (fun k => k) (.cons rfl ren_vsI (by first | exact inSL_I _ | simp) (.cons rfl (by first | exact ren_agI | exact ren_vsI | exact ren_free _ _ (by first | exact inSL_I _ | simp)) (by first | exact inSL_I _ | simp) (.cons rfl (by first | rfl | simp) (by show _ < _; decide) (.cons rfl (by first | exact ren_agI | exact ren_vsI | exact ren_free _ _ (by first | exact inSL_I _ | simp)) (by first | exact inSL_I _ | simp) (.cons rfl (by first | exact ren_agI | exact ren_vsI | exact ren_free _ _ (by first | exact inSL_I _ | simp)) (by first | exact inSL_I _ | simp) .nil))))) (.cons rfl (Blk.ren_free (by simp) _) rfl (by first | exact inSL_I _ | simp) (.cons rfl rfl rfl (by first | exact inSL_I _ | simp) (.cons rfl rfl rfl (by first | exact inSL_I _ | simp) (.cons rfl (Blk.ren_free (by simp) _) rfl (by first | exact inSL_I _ | simp) (.cons rfl rfl rfl (by first | exact inSL_I _ | simp) (.cons rfl rfl rfl (by first | exact inSL_I _ | simp) (.cons rfl (Blk.ren_free (by simp) _) rfl (by first | exact inSL_I _ | simp) .nil))))))) rfl rfl rfl), (by omega)⟩
        ·
          obtain rfl : i = M.length := by omega
          have hS : flatB (M.drop M.length) ++ part = part := by rw [List.drop_of_length_le (Nat.le_refl _), flatB_nil, List.nil_append]
          have hT : M.take M.length = M := List.take_length
          have hlr : part.length ≤ 1099511626 := by rw [List.length_append] at hl; omega
          rw [hS]
          refine W_region ?_
          refine WL_cons hI1.fn (.plain rfl (oc_move hI1 (.tmp rfl) rfl rfl)) ?_
          refine WL_cons hI1.fn (.plain rfl (oc_call hI1 (.cons (.tmp rfl) .nil) (.cons1 (by first | exact .free (by first | exact inSL_I _ | simp) | exact .row rfl rfl (by first | exact inSL_I _ | simp) | exact .nils | exact .sl1 rfl (by first | exact cut_I | rfl) (by first | exact inSL_I _ | simp)) (.same (by first | exact inSL_I _ | simp))) (nread_no part br (by omega) hno) (glob_cons rfl rfl (by first | exact inSL_I _ | simp) glob_nil) (by first | exact inSL_I _ | simp) (by first | exact .inl rfl | exact .inr (by simp)) rfl rfl)) ?_
          refine WL_cons hI1.fn (.plain rfl (oc_move hI1 (.tmp rfl) rfl rfl)) ?_
          refine WL_cons hI1.fn (.plain rfl (oc_extract hI1 (.tmp rfl) rfl rfl rfl)) ?_
          refine WL_cons hI1.fn (.plain rfl (oc_extract hI1 (.tmp rfl) rfl rfl rfl)) ?_
          refine WL_cons hI1.fn (.plain rfl (oc_extract hI1 (.tmp rfl) rfl rfl rfl)) ?_
          refine WL_cons hI1.fn (.plain rfl (ox_alloc (cs' := noteX (List.replicate 16 0) 0 0 0) hI1 zero_25 (by unfold noteX; rfl) rfl rfl)) ?_
          refine WL_cons hI1.fn (.plain rfl (ox_store (bk' := .blk 25 (noteX (List.replicate 16 0) 0 0 0)) hI1 (.tmp rfl) (.tmp rfl) rfl shp_25 flat_noteX (by rw [cells_ag, length_noteX rfl]) (by show _ ≤ (noteX _ _ _ _).length; rw [length_noteX rfl]; decide) (put_nall rfl rfl) (by first | exact .here | exact .s1 rfl | exact .s2 rfl rfl | exact .s3 rfl rfl rfl | exact .s4 rfl rfl rfl rfl | exact .s5 rfl rfl rfl rfl rfl | exact .s6 rfl rfl rfl rfl rfl rfl | exact .s7 rfl rfl rfl rfl rfl rfl rfl | exact .s8 rfl rfl rfl rfl rfl rfl rfl rfl) rfl)) ?_
          refine WL_cons hI1.fn (.plain rfl (oc_assign hI1 (.tmp rfl) rfl rfl)) ?_
          refine WL_cons hI1.fn (.plain rfl (oc_assign hI1 (.tmp rfl) rfl rfl)) ?_
          refine WL_nil ?_
          refine W_seq ?_
          refine wsr ?_
          refine WL_cons hI1.fn (.plain rfl (oc_move hI1 (.tmp rfl) rfl rfl)) ?_
          refine WL_cons hI1.fn (.plain rfl (oc_not hI1 (.tmp rfl) rfl rfl)) ?_
          refine WL_cons hI1.fn (.plain rfl (oc_move hI1 (.tmp rfl) rfl rfl)) ?_
          refine WL_cons hI1.fn (.no (s1 := ⟨_, (17, .tu []) :: _, _⟩) rfl rfl (by decide) rfl (by decide) (fun t ht => by cases ht; exact ⟨blt_lt rfl, blt_lt rfl⟩) (fun t => setE_cons _ _ _ _) rfl rfl) ?_
          refine WL_cons hI1.fn (.no (s1 := ⟨_, (18, .tu []) :: _, _⟩) rfl rfl (by decide) rfl (by decide) (fun t ht => by cases ht; exact ⟨blt_lt rfl, blt_lt rfl⟩) (fun t => setE_cons _ _ _ _) rfl rfl) ?_
          refine WL_cons hI1.fn (.no (s1 := ⟨_, (19, .tu []) :: _, _⟩) rfl rfl (by decide) rfl (by decide) (fun t ht => by cases ht; exact ⟨blt_lt rfl, blt_lt rfl⟩) (fun t => setE_cons _ _ _ _) rfl rfl) ?_
          refine WL_cons hI1.fn (.no (s1 := ⟨_, (20, .tu []) :: _, _⟩) rfl rfl (by decide) rfl (by decide) (fun t ht => by cases ht; exact ⟨blt_lt rfl, blt_lt rfl⟩) (fun t => setE_cons _ _ _ _) rfl rfl) ?_
          refine WL_cons hI1.fn (.plain rfl (ox_pick hI1 (.tmp rfl) .cbool (.tmp rfl) (by first | exact pick_t | exact pick_f | rfl) rfl rfl)) ?_
          refine WL_nil ?_
          refine W_cond rfl (by decide) (fun _ => ?_) (fun hc => by cases hc)
          refine W_ret ?_
          refine rq_n (.inr rfl) (by rfl) ?_
          refine wsr ?_
          refine wp rfl hC (oc_load hC (.tmp rfl) (by first | exact .p rfl | exact .rp) shp_3 (by first | exact unit_one rfl | exact unit_I (by first | omega | (simp <;> fail) | (simp; omega)) | exact unit_c rfl (by decide) | exact unit_c rfl (by simp)) rfl rfl) ?_
          refine wp rfl hC (oc_move hC (.tmp rfl) rfl rfl) ?_
          refine wp rfl hC (oc_load hC (.tmp rfl) (by first | exact .p rfl | exact .rp) shp_5 (by first | exact unit_one rfl | exact unit_I (by first | omega | (simp <;> fail) | (simp; omega)) | exact unit_c rfl (by decide) | exact unit_c rfl (by simp)) rfl rfl) ?_
          refine wp rfl hC (oc_conv hC (.tmp rfl) rfl Tryd.underlying3 (r := ((st : Nat) : Int)) (i64_conv (by omega)) rfl rfl) ?_
          refine wp rfl hC (oc_bin hC rfl (.tmp rfl) .cint (r := ((st + 1 : Nat) : Int)) (nadd (y := 1) (by omega)) rfl rfl) ?_
          refine wp rfl hC (ox_min hC (.tmp rfl) (.tmp rfl) (r := ((min m (st + 1) : Nat) : Int)) (by omega) rfl rfl) ?_
          refine wp rfl hC (ox_cmp hC rfl (.tmp rfl) (.tmp rfl) (r := true) (by simp only [cmpI]; exact decide_eq_true (by omega)) rfl rfl) ?_
          refine wp rfl hC (oc_move hC (.tmp rfl) rfl rfl) ?_
          refine WL_cons hC.fn (.yes rfl rfl (by decide) rfl (oc_call hC .nil (.same (by first | exact inSL_I _ | simp)) (awake18_c) (glob_cons rfl rfl (by first | exact inSL_I _ | simp) glob_nil) (by first | exact inSL_I _ | simp) (by first | exact .inl rfl | exact .inr (by simp)) rfl rfl)) ?_
          refine wp rfl hC (ox_pick hC (.tmp rfl) (.tmp rfl) .cbool (by first | exact pick_t | exact pick_f | rfl) rfl rfl) ?_
          refine wp rfl hC (ox_store hC (.tmp rfl) (.tmp rfl) rfl shp_4 (by first | rfl | exact flat_agI) (by first | exact cells1 rfl | (rw [cells_ag, length_I]; omega) | rfl | (simp <;> fail) | (simp; omega)) (by first | exact Nat.le_refl _ | exact Nat.le_of_ble_eq_true rfl | decide | (simp <;> fail) | (simp; omega)) (by first | exact put_one rfl | exact put_blkI (by first | omega | (simp <;> fail) | (simp; omega)) | exact put_rowI (by first | omega | (simp <;> fail) | (simp; omega)) | rfl) (by first | exact .here | exact .s1 rfl | exact .s2 rfl rfl | exact .s3 rfl rfl rfl | exact .s4 rfl rfl rfl rfl | exact .s5 rfl rfl rfl rfl rfl | exact .s6 rfl rfl rfl rfl rfl rfl | exact .s7 rfl rfl rfl rfl rfl rfl rfl | exact .s8 rfl rfl rfl rfl rfl rfl rfl rfl) rfl) ?_
          refine WL_nil ?_
          refine W_ret ?_
          exact fin0 (.cons (.cell rfl (.p rfl) shp_4 (unit_one rfl)) .nil) rfl trivial
end Go.Proofs.YtibldhfgapjpfaaDoor
