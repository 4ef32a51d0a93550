/- Own work, printed by a program of this claim: walks through functions of the program. -/
import Derived.Test.YtibldhfgapjpfaaDoorW5
import Derived.Test.YtibldhfgapjpfaaDoorProg
import Derived.KernelRfl
set_option linter.unusedSimpArgs false
set_option linter.unusedVariables false
namespace Go.Proofs.YtibldhfgapjpfaaDoor
open Go.Sk Go.RowKit
attribute [local simp] AV.inSL AV.inS inSL_I Blk.inS Blk.cs AV.novs AV.novsL novsL_I AV.ren AV.cells AV.one lk tuAV


set_option maxRecDepth 20000 in
set_option maxHeartbeats 4000000 in
theorem law_JournalScans (b : List Int) (bb : B8 b) (id : List Int) (x v it : Int) (hid : id.length = 16) (bid : B8 id) : FnC Tryd.prog 4 [(1000000, .rp (I .u32 nibT))] [.vs b.length (I .u8 b), .ag (noteX id x v it)] [] [] (.b true) := by
  obtain ⟨D, rest, hD, hb, hno⟩ := scan_ex _ b (Nat.le_refl _)
  have br : B8 rest := fun q hq => bb q (by rw [hb]; exact List.mem_append_right _ hq)
  have hbl : b.length = (flatB D).length + rest.length := by conv => lhs; rw [hb, List.length_append]
  have hDl := flat_ge hD
  have hIds := Ids.of hD
  have htk : b.take (flatB D).length = flatB D := by rw [hb, List.take_left]
  have hdr : b.drop (flatB D).length = rest := by rw [hb, List.drop_left]
  have hnl := nBd_le (d := ⟨id, x, v, it⟩) hid
  have hnl : (nB id x v it).length ≤ 42 := hnl
  refine FnC.introR (N0 := 0) (T := 86) (E := [(0, .vs b.length (I .u8 b)), (1, .ag (noteX id x v it)), (1000000, .rp (I .u32 nibT))]) Tryd.func4 rfl (by decide) mix rfl rfl rfl (by simp) rfl ⟨(by first | exact inSL_I _ | trivial | simp), (by first | exact inSL_I _ | trivial | simp), trivial⟩ (by simp) (by intro S _ _ h; simp) (fun F n0 X w ρ hC hro => ?_)
  refine wsr ?_
  refine wp rfl hC (ox_box hC (.tmp rfl) flat_noteX (by first | exact cells_ag | rfl) rfl rfl) ?_
  refine wp rfl hC (oc_assign hC .cbool rfl rfl) ?_
  refine WL_nil ?_
  refine W_seq ?_
  refine W_seq ?_
  rcases Nat.lt_or_ge 1000 b.length with h_ | h_
  ·
    refine W_region ?_
    refine wp rfl hC (oc_move hC (.tmp rfl) rfl rfl) ?_
    refine wp rfl hC (ox_len hC (.tmp rfl) (by first | exact .row rfl | exact .vs | exact .sl rfl | exact .nils) Tryd.underlying22 rfl rfl rfl) ?_
    refine wp rfl hC (ox_cmp hC rfl (.tmp rfl) .cint (r := true) (by simp only [cmpI]; exact decide_eq_true (by omega)) rfl rfl) ?_
    refine WL_nil ?_
    refine W_cond rfl (by decide) (fun _ => ?_) (fun hc => by cases hc)
    refine wsr ?_
    refine wp rfl hC (oc_call hC .nil (.same (by first | exact inSL_I _ | simp)) (awake18_c) (glob_cons rfl rfl (by first | exact inSL_I _ | simp) glob_nil) (by first | exact inSL_I _ | simp) (by first | exact .inl rfl | exact .inr (by simp)) rfl rfl) ?_
    refine wp rfl hC (oc_assign hC (.tmp rfl) rfl rfl) ?_
    refine WL_nil ?_
    refine W_ret ?_
    exact fin0 (.cons (.tmp rfl) .nil) rfl trivial
  ·
    refine W_region ?_
    refine wp rfl hC (oc_move hC (.tmp rfl) rfl rfl) ?_
    refine wp rfl hC (ox_len hC (.tmp rfl) (by first | exact .row rfl | exact .vs | exact .sl rfl | exact .nils) Tryd.underlying22 rfl rfl rfl) ?_
    refine wp rfl hC (ox_cmp hC rfl (.tmp rfl) .cint (r := false) (by simp only [cmpI]; exact decide_eq_false (by omega)) rfl rfl) ?_
    refine WL_nil ?_
    refine W_cond rfl (by decide) (fun hc => by cases hc) (fun _ => ?_)
    refine W_skip ?_
    refine wsr ?_
    refine wp rfl hC (oc_move hC (.tmp rfl) rfl rfl) ?_
    refine wp rfl hC (oc_callN hC (.cons (.tmp rfl) .nil) (.cons1 (by first | exact .free (by first | exact inSL_I _ | simp) | exact .row rfl rfl (by first | exact inSL_I _ | simp) | exact .nils | exact .sl1 rfl (by first | exact cut_I | rfl) (by first | exact inSL_I _ | simp)) (.same (by first | exact inSL_I _ | simp))) (scan_s b D rest hb hD br hno (by omega)) (glob_cons rfl rfl (by first | exact inSL_I _ | simp) glob_nil) (by first | exact inSL_I _ | simp) rfl (by first | exact .inl rfl | exact .inr ⟨by simp, novsL_I _⟩ | exact .inr ⟨by simp, by simp⟩) rfl rfl) ?_
    refine wp rfl hC (oc_move hC (.tmp rfl) rfl rfl) ?_
    refine wp rfl hC (oc_extract hC (.tmp rfl) rfl rfl rfl) ?_
    refine wp rfl hC (oc_extract hC (.tmp rfl) rfl rfl rfl) ?_
    refine wp rfl hC (oc_assign hC (.tmp rfl) rfl rfl) ?_
    refine wp rfl hC (oc_assign hC (.tmp rfl) rfl rfl) ?_
    refine WL_nil ?_
    refine wsr ?_
    refine wp rfl hC (oc_assign hC .cnils rfl rfl) ?_
    refine WL_nil ?_
    refine W_seq ?_
    refine wsr ?_
    refine wp rfl hC (oc_move hC (.tmp rfl) rfl rfl) ?_
    refine wp rfl hC (ox_len hC (.tmp rfl) (by first | exact .row rfl | exact .vs | exact .sl rfl | exact .nils) Tryd.underlying36 rfl rfl rfl) ?_
    refine wp rfl hC (oc_move hC .cint rfl rfl) ?_
    refine WL_nil ?_
    refine W_blk ?_
    refine W_weak (weak_nil (t := 7) (e := 5) (sz := 1) rfl) ?_
    refine W_loopW (fun (ζ : Nat) => ⟨3, [(0, .vs b.length (I .u8 b)), (3, .p 0 0), (6, .i .i64 ((flatB D).length : Nat)), (7, .row 2), (20, .row 1), (21, .i .i64 (D.length : Nat)), (22, .i .i64 ζ), (1000000, .rp (I .u32 nibT))], [(0, .blk 25 (noteX id x v it)), (1, .row 25 19 D.length (nts D)), (2, .row 5 1 (flatB (D.take ζ)).length (I .u8 (flatB (D.take ζ))))]⟩) (fun ζ => ζ ≤ D.length) (fun ζ => D.length - ζ) (0) (Nat.zero_le _) (weak (fun k => k) (.cons rfl ren_vsI (by first | exact inSL_I _ | simp) (.cons rfl (by first | rfl | simp) (by show _ < _; decide) (.cons rfl rfl trivial (.cons rfl (by first | rfl | simp) (by show _ < _; decide) (.cons rfl (by first | rfl | simp) (by show _ < _; decide) (.cons rfl rfl trivial (.cons rfl rfl trivial (.cons rfl (by first | exact ren_agI | exact ren_vsI | exact ren_free _ _ (by first | exact inSL_I _ | simp)) (by first | exact inSL_I _ | simp) .nil)))))))) (.cons rfl ren_noteB rfl (by first | exact inSL_I _ | simp) (.cons rfl (Blk.ren_free (by simp) _) rfl (by first | exact inSL_I _ | simp) (.cons rfl (renRow (l' := []) (by rw [List.take_zero, flatB_nil]; rfl) (by rw [List.take_zero, flatB_nil])) rfl (by first | exact inSL_I _ | simp) .nil))) rfl rfl rfl) ?_
    intro i hR
    replace hR : i ≤ D.length := hR
    first | show W _ _ _ ⟨3, [(0, .vs b.length (I .u8 b)), (3, .p 0 0), (6, .i .i64 ((flatB D).length : Nat)), (7, .row 2), (20, .row 1), (21, .i .i64 (D.length : Nat)), (22, .i .i64 i), (1000000, .rp (I .u32 nibT))], [(0, .blk 25 (noteX id x v it)), (1, .row 25 19 D.length (nts D)), (2, .row 5 1 (flatB (D.take i)).length (I .u8 (flatB (D.take i))))]⟩ | skip
    refine wsr ?_
    refine wp rfl hC (ox_cmp hC rfl (.tmp rfl) (.tmp rfl) rfl rfl rfl) ?_
    refine WL_nil ?_
    refine W_seq ?_
    refine W_cond rfl (by decide) (fun hc => ?_) (fun hc => ?_)
    ·
      replace hc := lss_t hc
      have hiD : i < D.length := by omega
      obtain ⟨d, hd⟩ : ∃ d, d = D[i]'hiD := ⟨_, rfl⟩
      obtain ⟨hdi, hd8⟩ := hIds d (by rw [hd]; exact List.getElem_mem _)
      have hdr2 : RightN d.nx d.vo d.it := (hD d (by rw [hd]; exact List.getElem_mem _)).2.2
      have hft : flatB (D.take i) ++ nB d.id d.nx d.vo d.it = flatB (D.take (i + 1)) := by rw [hd]; exact flatB_take hiD
      have hfl : (flatB (D.take i)).length + (nB d.id d.nx d.vo d.it).length = (flatB (D.take (i + 1))).length := by rw [← hft, List.length_append]
      have hd42 : (nB d.id d.nx d.vo d.it).length ≤ 42 := nBd_le (d := d) hdi
      have hft2 : (flatB (D.take i)).length ≤ (flatB D).length := by
        conv => rhs; rw [← List.take_append_drop i D, flatB_append, List.length_append]
        omega
      refine W_skip ?_
      refine W_seq ?_
      refine W_blk ?_
      refine wsr ?_
      refine wp rfl hC (ox_indexS hC (j := i) (.tmp rfl) (.tmp rfl) idx_36 (by first | rfl | omega | (simp; omega)) (by first | exact Nat.mul_one _ | rfl) (by first | exact .row rfl | exact .sl (Nat.zero_add _) | exact .sl rfl | exact .vs (by first | omega | (simp <;> fail) | (simp; omega))) (by omega) rfl rfl) ?_
      refine wp rfl hC (oc_load hC (v := .ag (noteX d.id d.nx d.vo d.it)) (.tmp rfl) (by first | exact .p rfl | exact .rp) shp_25 (by exact (unit_ntd hIds hiD hd)) rfl rfl) ?_
      refine wp rfl hC (ox_alloc (cs' := noteX (List.replicate 16 0) 0 0 0) hC zero_25 (by unfold noteX; rfl) rfl rfl) ?_
      refine wp rfl hC (ox_store (bk' := .blk 25 (noteX d.id d.nx d.vo d.it)) hC (.tmp rfl) (.tmp rfl) rfl shp_25 flat_noteX (by rw [cells_ag, length_noteX hdi]) (by show _ ≤ (noteX _ _ _ _).length; rw [length_noteX rfl]; decide) (put_nall rfl hdi) (by first | exact .here | exact .s1 rfl | exact .s2 rfl rfl | exact .s3 rfl rfl rfl | exact .s4 rfl rfl rfl rfl | exact .s5 rfl rfl rfl rfl rfl | exact .s6 rfl rfl rfl rfl rfl rfl | exact .s7 rfl rfl rfl rfl rfl rfl rfl | exact .s8 rfl rfl rfl rfl rfl rfl rfl rfl) rfl) ?_
      refine WL_nil ?_
      refine W_seq ?_
      refine wsr ?_
      refine wp rfl hC (oc_load hC (.tmp rfl) (by first | exact .p rfl | exact .rp) shp_25 (by exact (unit_nall hdi)) rfl rfl) ?_
      refine wp rfl hC (oc_call hC (.cons (.tmp rfl) .nil) (.cons1 (.free (by first | exact inSL_I _ | simp)) (.same (by first | exact inSL_I _ | simp))) (ngiven_c d.id d.nx d.vo d.it hdi hd8) glob_nil (by first | exact inSL_I _ | simp) (by first | exact .inl rfl | exact .inr (by simp)) rfl rfl) ?_
      refine wp rfl hC (oc_call hC (.cons (.tmp rfl) .nil) (.cons1 (.free (by first | exact inSL_I _ | simp)) (.same (by first | exact inSL_I _ | simp))) (rnright_t d.id d.nx d.vo d.it hdi hd8 hdr2) glob_nil (by first | exact inSL_I _ | simp) (by first | exact .inl rfl | exact .inr (by simp)) rfl rfl) ?_
      refine wp rfl hC (oc_not hC (.tmp rfl) rfl rfl) ?_
      refine WL_nil ?_
      refine W_cond rfl (by decide) (fun hc => by cases hc) (fun _ => ?_)
      refine W_skip ?_
      refine W_region ?_
      refine wp rfl hC (oc_move hC (.tmp rfl) rfl rfl) ?_
      refine wp rfl hC (oc_load hC (.tmp rfl) (by first | exact .p rfl | exact .rp) shp_25 (by exact (unit_nall hdi)) rfl rfl) ?_
      refine wp rfl hC (oc_call hC (.cons (.tmp rfl) .nil) (.cons1 (.free (by first | exact inSL_I _ | simp)) (.same (by first | exact inSL_I _ | simp))) (ngiven_c d.id d.nx d.vo d.it hdi hd8) glob_nil (by first | exact inSL_I _ | simp) (by first | exact .inl rfl | exact .inr (by simp)) rfl rfl) ?_
      refine wp rfl hC (oc_callN hC (.cons (.tmp rfl) .nil) (.cons1 (.free (by first | exact inSL_I _ | simp)) (.same (by first | exact inSL_I _ | simp))) (rnb_c d.id d.nx d.vo d.it hdi hd8 hdr2) glob_nil (by first | exact inSL_I _ | simp) rfl (by first | exact .inl rfl | exact .inr ⟨by simp, novsL_I _⟩ | exact .inr ⟨by simp, by simp⟩) rfl rfl) ?_
      refine wp rfl hC (ox_append (n' := (flatB (D.take (i + 1))).length) (cs' := I .u8 (flatB (D.take (i + 1)))) hC (.tmp rfl) (.tmp rfl) (by first | exact .row rfl rfl (by first | exact .here rfl | exact .s1 rfl rfl | exact .s2 rfl rfl rfl | exact .s3 rfl rfl rfl rfl | exact .s4 rfl rfl rfl rfl rfl | exact .s5 rfl rfl rfl rfl rfl rfl | exact .s6 rfl rfl rfl rfl rfl rfl rfl | exact .s7 rfl rfl rfl rfl rfl rfl rfl rfl | exact .s8 rfl rfl rfl rfl rfl rfl rfl rfl rfl) | exact .nils) (by first | exact .row rfl | exact .vs | exact .sl rfl | exact .nils) (by first | exact hro_nil | exact hro_one rfl) Tryd.underlying22 cells_5 bytes_5 zero_5 rfl (by decide) (by rw [length_I]; omega) (by first | rfl | exact one_takeI) (by omega) ((app_I rfl).trans (by rw [hft])) (by simp only [maxLen]; omega) (by omega) rfl rfl) ?_
      refine wp rfl hC (oc_assign hC (.tmp rfl) rfl rfl) ?_
      refine WL_nil ?_
      refine W_region ?_
      refine wp rfl hC (oc_bin hC rfl (.tmp rfl) .cint (by first | exact i64_add (by omega) | rfl) rfl rfl) ?_
      refine wp rfl hC (oc_move hC (.tmp rfl) rfl rfl) ?_
      refine WL_nil ?_
      exact ⟨(i + 1), (by omega), (weak (fun k => bif Nat.beq k 2 then 5 else k) (.cons rfl ren_vsI (by first | exact inSL_I _ | simp) (.cons rfl (by first | rfl | simp) (by show _ < _; decide) (.cons rfl (by first | rfl | exact congrArg (AV.i _) (by omega) | exact congrArg (AV.i _) (by simp; omega)) trivial (.cons rfl (by first | rfl | simp) (by show _ < _; decide) (.cons rfl (by first | rfl | simp) (by show _ < _; decide) (.cons rfl (by first | rfl | exact congrArg (AV.i _) (by omega) | exact congrArg (AV.i _) (by simp; omega)) trivial (.cons rfl (by first | rfl | exact congrArg (AV.i _) (by omega) | exact congrArg (AV.i _) (by simp; omega)) trivial (.cons rfl (by first | exact ren_agI | exact ren_vsI | exact ren_free _ _ (by first | exact inSL_I _ | simp)) (by first | exact inSL_I _ | simp) .nil)))))))) (.cons rfl ren_noteB rfl (by first | exact inSL_I _ | simp) (.cons rfl (Blk.ren_free (by simp) _) rfl (by first | exact inSL_I _ | simp) (.cons rfl (renRow rfl rfl) rfl (by first | exact inSL_I _ | simp) .nil))) rfl rfl rfl), (by omega)⟩
    ·
      replace hc := lss_f hc
      obtain rfl : i = D.length := by omega
      rw [List.take_of_length_le (Nat.le_refl D.length)]
      refine W_exit ?_
      refine W_seq ?_
      refine W_seq ?_
      refine W_drawD hC ?_
      refine WD_cons (.plain rfl (oc_move hC (.tmp rfl) rfl rfl)) ?_
      refine WD_cons (.plain rfl (oc_move hC (.tmp rfl) rfl rfl)) ?_
      refine WD_cons (.plain rfl (ox_len hC (.tmp rfl) (by first | exact .row rfl | exact .vs | exact .sl rfl | exact .nils) Tryd.underlying22 rfl rfl rfl)) ?_
      refine WD_cons (.plain rfl (ox_cmp hC rfl (.tmp rfl) (.tmp rfl) (r := false) (by simp only [cmpI]; exact decide_eq_false (by omega)) rfl rfl)) ?_
      refine WD_cons (.plain rfl (oc_move hC (.tmp rfl) rfl rfl)) ?_
      refine WD_cons (.yes rfl rfl (by decide) rfl (oc_move hC (.tmp rfl) rfl rfl)) ?_
      refine WD_cons (.yes rfl rfl (by decide) rfl (oc_move hC (.tmp rfl) rfl rfl)) ?_
      refine WD_cons (.yes rfl rfl (by decide) rfl (ox_len hC (.tmp rfl) (by first | exact .row rfl | exact .vs | exact .sl rfl | exact .nils) Tryd.underlying22 rfl rfl rfl)) ?_
      refine WD_cons (.yes rfl rfl (by decide) rfl (ox_cmp hC rfl (.tmp rfl) (.tmp rfl) (r := false) (by simp only [cmpI]; exact decide_eq_false (by omega)) rfl rfl)) ?_
      refine WD_cons (.plain rfl (ox_pick hC (.tmp rfl) .cbool (.tmp rfl) (by first | exact pick_t | exact pick_f | rfl) rfl rfl)) ?_
      refine WD_cons (.plain rfl (oc_move hC (.tmp rfl) rfl rfl)) ?_
      refine WD_cons (.yes rfl rfl (by decide) rfl (oc_move hC (.tmp rfl) rfl rfl)) ?_
      refine WD_cons (.yes rfl rfl (by decide) rfl (oc_move hC (.tmp rfl) rfl rfl)) ?_
      refine WD_cons (.yes rfl rfl (by decide) rfl (ox_cutS (u' := .vs (flatB D).length (I .u8 (flatB D))) hC (.tmp rfl) .no (.yes (n := (flatB D).length) (.tmp rfl) (by first | rfl | omega | (simp; omega))) idx_22 (by first | exact .row rfl (Nat.mul_one _) | exact .sl rfl | exact .vs (by first | omega | (simp <;> fail) | (simp; omega)) | exact .nils) (by first | omega | (simp <;> fail) | (simp; omega)) (by first | omega | (simp <;> fail) | (simp; omega)) (by rw [cut_vsI, Nat.sub_zero, List.drop_zero, htk]) rfl rfl)) ?_
      refine WD_cons (.yes rfl rfl (by decide) rfl (ox_b2s (l := (flatB D)) hC (.tmp rfl) (by first | exact .row rfl | exact .vs | exact .sl rfl | exact .nils) (take_allI rfl) rfl Tryd.underlying22 Tryd.underlying5 Tryd.underlying9 rfl rfl)) ?_
      refine WD_cons (.yes rfl rfl (by decide) rfl (oc_move hC (.tmp rfl) rfl rfl)) ?_
      refine WD_cons (.yes rfl rfl (by decide) rfl (ox_b2s (l := (flatB D)) hC (.tmp rfl) (by first | exact .row rfl | exact .vs | exact .sl rfl | exact .nils) (take_allI rfl) rfl Tryd.underlying22 Tryd.underlying5 Tryd.underlying9 rfl rfl)) ?_
      refine WD_cons (.yes rfl rfl (by decide) rfl (ox_eqs hC (.inr rfl) (.tmp rfl) (.tmp rfl) (r := false) (by simp) rfl rfl)) ?_
      refine WD_cons (.plain rfl (ox_pick hC (.tmp rfl) .cbool (.tmp rfl) (by first | exact pick_t | exact pick_f | rfl) rfl rfl)) ?_
      refine WD_nil (by kernel_rfl) ?_
      refine W_cond rfl (by decide) (fun hc => by cases hc) (fun _ => ?_)
      refine W_skip ?_
      refine W_seq ?_
      refine W_seq ?_
      rcases (show ¬ RightN x v it ∨ (RightN x v it ∧ rest.length < (nB id x v it).length) ∨ (RightN x v it ∧ (nB id x v it).length ≤ rest.length) from by
        rcases Classical.em (RightN x v it) with c | c
        · rcases Nat.lt_or_ge rest.length (nB id x v it).length with e | e
          · exact .inr (.inl ⟨c, e⟩)
          · exact .inr (.inr ⟨c, e⟩)
        · exact .inl c) with hR | ⟨hR, h2_⟩ | ⟨hR, h2_⟩
      ·
        refine W_region ?_
        refine wp rfl hC (oc_load hC (.tmp rfl) (by first | exact .p rfl | exact .rp) shp_25 (by exact (unit_nall hid)) rfl rfl) ?_
        refine wp rfl hC (oc_call hC (.cons (.tmp rfl) .nil) (.cons1 (.free (by first | exact inSL_I _ | simp)) (.same (by first | exact inSL_I _ | simp))) (ngiven_c id x v it hid bid) glob_nil (by first | exact inSL_I _ | simp) (by first | exact .inl rfl | exact .inr (by simp)) rfl rfl) ?_
        refine wp rfl hC (oc_call hC (.cons (.tmp rfl) .nil) (.cons1 (.free (by first | exact inSL_I _ | simp)) (.same (by first | exact inSL_I _ | simp))) (rnright_f id x v it hid bid hR) glob_nil (by first | exact inSL_I _ | simp) (by first | exact .inl rfl | exact .inr (by simp)) rfl rfl) ?_
        refine wp rfl hC (oc_not hC (.tmp rfl) rfl rfl) ?_
        refine WL_nil ?_
        refine W_cond rfl (by decide) (fun _ => ?_) (fun hc => by cases hc)
        refine wsr ?_
        refine wp rfl hC (oc_call hC .nil (.same (by first | exact inSL_I _ | simp)) (awake18_c) (glob_cons rfl rfl (by first | exact inSL_I _ | simp) glob_nil) (by first | exact inSL_I _ | simp) (by first | exact .inl rfl | exact .inr (by simp)) rfl rfl) ?_
        refine wp rfl hC (oc_assign hC (.tmp rfl) rfl rfl) ?_
        refine WL_nil ?_
        refine W_ret ?_
        exact fin0 (.cons (.tmp rfl) .nil) rfl trivial
      ·
        refine W_region ?_
        refine wp rfl hC (oc_load hC (.tmp rfl) (by first | exact .p rfl | exact .rp) shp_25 (by exact (unit_nall hid)) rfl rfl) ?_
        refine wp rfl hC (oc_call hC (.cons (.tmp rfl) .nil) (.cons1 (.free (by first | exact inSL_I _ | simp)) (.same (by first | exact inSL_I _ | simp))) (ngiven_c id x v it hid bid) glob_nil (by first | exact inSL_I _ | simp) (by first | exact .inl rfl | exact .inr (by simp)) rfl rfl) ?_
        refine wp rfl hC (oc_call hC (.cons (.tmp rfl) .nil) (.cons1 (.free (by first | exact inSL_I _ | simp)) (.same (by first | exact inSL_I _ | simp))) (rnright_t id x v it hid bid hR) glob_nil (by first | exact inSL_I _ | simp) (by first | exact .inl rfl | exact .inr (by simp)) rfl rfl) ?_
        refine wp rfl hC (oc_not hC (.tmp rfl) rfl rfl) ?_
        refine WL_nil ?_
        refine W_cond rfl (by decide) (fun hc => by cases hc) (fun _ => ?_)
        refine W_skip ?_
        refine wsr ?_
        refine wp rfl hC (oc_load hC (.tmp rfl) (by first | exact .p rfl | exact .rp) shp_25 (by exact (unit_nall hid)) rfl rfl) ?_
        refine wp rfl hC (oc_call hC (.cons (.tmp rfl) .nil) (.cons1 (.free (by first | exact inSL_I _ | simp)) (.same (by first | exact inSL_I _ | simp))) (ngiven_c id x v it hid bid) glob_nil (by first | exact inSL_I _ | simp) (by first | exact .inl rfl | exact .inr (by simp)) rfl rfl) ?_
        refine wp rfl hC (oc_callN hC (.cons (.tmp rfl) .nil) (.cons1 (.free (by first | exact inSL_I _ | simp)) (.same (by first | exact inSL_I _ | simp))) (rnb_c id x v it hid bid hR) glob_nil (by first | exact inSL_I _ | simp) rfl (by first | exact .inl rfl | exact .inr ⟨by simp, novsL_I _⟩ | exact .inr ⟨by simp, by simp⟩) rfl rfl) ?_
        refine wp rfl hC (oc_assign hC (.tmp rfl) rfl rfl) ?_
        refine WL_nil ?_
        refine W_seq ?_
        refine W_drawD hC ?_
        refine WD_cons (.plain rfl (oc_move hC (.tmp rfl) rfl rfl)) ?_
        refine WD_cons (.plain rfl (ox_len hC (.tmp rfl) (by first | exact .row rfl | exact .vs | exact .sl rfl | exact .nils) Tryd.underlying22 rfl rfl rfl)) ?_
        refine WD_cons (.plain rfl (oc_move hC (.tmp rfl) rfl rfl)) ?_
        refine WD_cons (.plain rfl (oc_bin hC rfl (.tmp rfl) (.tmp rfl) (r := ((rest.length : Nat) : Int)) ((i64_sub (by omega)).trans (by omega)) rfl rfl)) ?_
        refine WD_cons (.plain rfl (oc_move hC (.tmp rfl) rfl rfl)) ?_
        refine WD_cons (.plain rfl (ox_len hC (.tmp rfl) (by first | exact .row rfl | exact .vs | exact .sl rfl | exact .nils) Tryd.underlying22 rfl rfl rfl)) ?_
        refine WD_cons (.plain rfl (ox_cmp hC rfl (.tmp rfl) (.tmp rfl) (r := true) (by simp only [cmpI]; exact decide_eq_true (by omega)) rfl rfl)) ?_
        refine WD_cons (.plain rfl (oc_move hC (.tmp rfl) rfl rfl)) ?_
        refine WD_cons (.no (s1 := ⟨_, (71, .tu []) :: _, _⟩) rfl rfl (by decide) rfl (by decide) (fun t ht => by cases ht; exact ⟨blt_lt rfl, blt_lt rfl⟩) (fun t => setE_cons _ _ _ _) rfl rfl) ?_
        refine WD_cons (.no (s1 := ⟨_, (72, .tu []) :: _, _⟩) rfl rfl (by decide) rfl (by decide) (fun t ht => by cases ht; exact ⟨blt_lt rfl, blt_lt rfl⟩) (fun t => setE_cons _ _ _ _) rfl rfl) ?_
        refine WD_cons (.no (s1 := ⟨_, (73, .tu []) :: _, _⟩) rfl rfl (by decide) rfl (by decide) (fun t ht => by cases ht; exact ⟨blt_lt rfl, blt_lt rfl⟩) (fun t => setE_cons _ _ _ _) rfl rfl) ?_
        refine WD_cons (.no (s1 := ⟨_, (74, .tu []) :: _, _⟩) rfl rfl (by decide) rfl (by decide) (fun t ht => by cases ht; exact ⟨blt_lt rfl, blt_lt rfl⟩) (fun t => setE_cons _ _ _ _) rfl rfl) ?_
        refine WD_cons (.no (s1 := ⟨_, (75, .tu []) :: _, _⟩) rfl rfl (by decide) rfl (by decide) (fun t ht => by cases ht; exact ⟨blt_lt rfl, blt_lt rfl⟩) (fun t => setE_cons _ _ _ _) rfl rfl) ?_
        refine WD_cons (.no (s1 := ⟨_, (76, .tu []) :: _, _⟩) rfl rfl (by decide) rfl (by decide) (fun t ht => by cases ht; exact ⟨blt_lt rfl, blt_lt rfl⟩) (fun t => setE_cons _ _ _ _) rfl rfl) ?_
        refine WD_cons (.no (s1 := ⟨_, (77, .tu []) :: _, _⟩) rfl rfl (by decide) rfl (by decide) (fun t ht => by cases ht; exact ⟨blt_lt rfl, blt_lt rfl⟩) (fun t => setE_cons _ _ _ _) rfl rfl) ?_
        refine WD_cons (.no (s1 := ⟨_, (78, .tu []) :: _, _⟩) rfl rfl (by decide) rfl (by decide) (fun t ht => by cases ht; exact ⟨blt_lt rfl, blt_lt rfl⟩) (fun t => setE_cons _ _ _ _) rfl rfl) ?_
        refine WD_cons (.no (s1 := ⟨_, (79, .tu []) :: _, _⟩) rfl rfl (by decide) rfl (by decide) (fun t ht => by cases ht; exact ⟨blt_lt rfl, blt_lt rfl⟩) (fun t => setE_cons _ _ _ _) rfl rfl) ?_
        refine WD_cons (.no (s1 := ⟨_, (80, .tu []) :: _, _⟩) rfl rfl (by decide) rfl (by decide) (fun t ht => by cases ht; exact ⟨blt_lt rfl, blt_lt rfl⟩) (fun t => setE_cons _ _ _ _) rfl rfl) ?_
        refine WD_cons (.no (s1 := ⟨_, (81, .tu []) :: _, _⟩) rfl rfl (by decide) rfl (by decide) (fun t ht => by cases ht; exact ⟨blt_lt rfl, blt_lt rfl⟩) (fun t => setE_cons _ _ _ _) rfl rfl) ?_
        refine WD_cons (.plain rfl (ox_pick hC (.tmp rfl) .cbool (.tmp rfl) (by first | exact pick_t | exact pick_f | rfl) rfl rfl)) ?_
        refine WD_cons (.plain rfl (oc_move hC (.tmp rfl) rfl rfl)) ?_
        refine WD_cons (.yes rfl rfl (by decide) rfl (oc_call hC .nil (.same (by first | exact inSL_I _ | simp)) (awake18_c) (glob_cons rfl rfl (by first | exact inSL_I _ | simp) glob_nil) (by first | exact inSL_I _ | simp) (by first | exact .inl rfl | exact .inr (by simp)) rfl rfl)) ?_
        refine WD_cons (.plain rfl (ox_pick hC (.tmp rfl) (.tmp rfl) .cbool (by first | exact pick_t | exact pick_f | rfl) rfl rfl)) ?_
        refine WD_cons (.plain rfl (oc_assign hC (.tmp rfl) rfl rfl)) ?_
        refine WD_nil (by kernel_rfl) ?_
        refine W_ret ?_
        exact fin0 (.cons (.tmp rfl) .nil) rfl trivial
      ·
        have hne : rest.take (nB id x v it).length ≠ nB id x v it := by
          intro e
          refine hno ⟨id, x, v, it⟩ (rest.drop (nB id x v it).length) ⟨hid, bid, hR⟩ ?_
          show rest = nB id x v it ++ _
          conv => lhs; rw [← List.take_append_drop (nB id x v it).length rest, e]
        have hbne : bs (rest.take (nB id x v it).length) ≠ bs (nB id x v it) := fun e => hne (bs_inj (fun q hq => br q (List.mem_of_mem_take hq)) (B8_nB hid bid hR) e)
        have htl : (rest.take (nB id x v it).length).length = (nB id x v it).length := by rw [List.length_take]; omega
        refine W_region ?_
        refine wp rfl hC (oc_load hC (.tmp rfl) (by first | exact .p rfl | exact .rp) shp_25 (by exact (unit_nall hid)) rfl rfl) ?_
        refine wp rfl hC (oc_call hC (.cons (.tmp rfl) .nil) (.cons1 (.free (by first | exact inSL_I _ | simp)) (.same (by first | exact inSL_I _ | simp))) (ngiven_c id x v it hid bid) glob_nil (by first | exact inSL_I _ | simp) (by first | exact .inl rfl | exact .inr (by simp)) rfl rfl) ?_
        refine wp rfl hC (oc_call hC (.cons (.tmp rfl) .nil) (.cons1 (.free (by first | exact inSL_I _ | simp)) (.same (by first | exact inSL_I _ | simp))) (rnright_t id x v it hid bid hR) glob_nil (by first | exact inSL_I _ | simp) (by first | exact .inl rfl | exact .inr (by simp)) rfl rfl) ?_
        refine wp rfl hC (oc_not hC (.tmp rfl) rfl rfl) ?_
        refine WL_nil ?_
        refine W_cond rfl (by decide) (fun hc => by cases hc) (fun _ => ?_)
        refine W_skip ?_
        refine wsr ?_
        refine wp rfl hC (oc_load hC (.tmp rfl) (by first | exact .p rfl | exact .rp) shp_25 (by exact (unit_nall hid)) rfl rfl) ?_
        refine wp rfl hC (oc_call hC (.cons (.tmp rfl) .nil) (.cons1 (.free (by first | exact inSL_I _ | simp)) (.same (by first | exact inSL_I _ | simp))) (ngiven_c id x v it hid bid) glob_nil (by first | exact inSL_I _ | simp) (by first | exact .inl rfl | exact .inr (by simp)) rfl rfl) ?_
        refine wp rfl hC (oc_callN hC (.cons (.tmp rfl) .nil) (.cons1 (.free (by first | exact inSL_I _ | simp)) (.same (by first | exact inSL_I _ | simp))) (rnb_c id x v it hid bid hR) glob_nil (by first | exact inSL_I _ | simp) rfl (by first | exact .inl rfl | exact .inr ⟨by simp, novsL_I _⟩ | exact .inr ⟨by simp, by simp⟩) rfl rfl) ?_
        refine wp rfl hC (oc_assign hC (.tmp rfl) rfl rfl) ?_
        refine WL_nil ?_
        refine W_seq ?_
        refine W_drawD hC ?_
        refine WD_cons (.plain rfl (oc_move hC (.tmp rfl) rfl rfl)) ?_
        refine WD_cons (.plain rfl (ox_len hC (.tmp rfl) (by first | exact .row rfl | exact .vs | exact .sl rfl | exact .nils) Tryd.underlying22 rfl rfl rfl)) ?_
        refine WD_cons (.plain rfl (oc_move hC (.tmp rfl) rfl rfl)) ?_
        refine WD_cons (.plain rfl (oc_bin hC rfl (.tmp rfl) (.tmp rfl) (r := ((rest.length : Nat) : Int)) ((i64_sub (by omega)).trans (by omega)) rfl rfl)) ?_
        refine WD_cons (.plain rfl (oc_move hC (.tmp rfl) rfl rfl)) ?_
        refine WD_cons (.plain rfl (ox_len hC (.tmp rfl) (by first | exact .row rfl | exact .vs | exact .sl rfl | exact .nils) Tryd.underlying22 rfl rfl rfl)) ?_
        refine WD_cons (.plain rfl (ox_cmp hC rfl (.tmp rfl) (.tmp rfl) (r := false) (by simp only [cmpI]; exact decide_eq_false (by omega)) rfl rfl)) ?_
        refine WD_cons (.plain rfl (oc_move hC (.tmp rfl) rfl rfl)) ?_
        refine WD_cons (.yes rfl rfl (by decide) rfl (oc_move hC (.tmp rfl) rfl rfl)) ?_
        refine WD_cons (.yes rfl rfl (by decide) rfl (oc_move hC (.tmp rfl) rfl rfl)) ?_
        refine WD_cons (.yes rfl rfl (by decide) rfl (oc_move hC (.tmp rfl) rfl rfl)) ?_
        refine WD_cons (.yes rfl rfl (by decide) rfl (oc_move hC (.tmp rfl) rfl rfl)) ?_
        refine WD_cons (.yes rfl rfl (by decide) rfl (ox_len hC (.tmp rfl) (by first | exact .row rfl | exact .vs | exact .sl rfl | exact .nils) Tryd.underlying22 rfl rfl rfl)) ?_
        refine WD_cons (.yes rfl rfl (by decide) rfl (oc_bin hC rfl (.tmp rfl) (.tmp rfl) (r := (((flatB D).length + (nB id x v it).length : Nat) : Int)) (nadd (by omega)) rfl rfl)) ?_
        refine WD_cons (.yes rfl rfl (by decide) rfl (ox_cutS (u' := .vs (nB id x v it).length (I .u8 (rest.take (nB id x v it).length))) hC (.tmp rfl) (.yes (n := (flatB D).length) (.tmp rfl) (by first | rfl | omega | (simp; omega))) (.yes (n := ((flatB D).length + (nB id x v it).length)) (.tmp rfl) (by first | rfl | omega | (simp; omega))) idx_22 (by first | exact .row rfl (Nat.mul_one _) | exact .sl rfl | exact .vs (by first | omega | (simp <;> fail) | (simp; omega)) | exact .nils) (by omega) (by omega) (by rw [cut_vsI, Nat.add_sub_cancel_left, hdr]) rfl rfl)) ?_
        refine WD_cons (.yes rfl rfl (by decide) rfl (ox_b2s (l := (rest.take (nB id x v it).length)) hC (.tmp rfl) (by first | exact .row rfl | exact .vs | exact .sl rfl | exact .nils) (take_allI htl) htl Tryd.underlying22 Tryd.underlying5 Tryd.underlying9 rfl rfl)) ?_
        refine WD_cons (.yes rfl rfl (by decide) rfl (oc_move hC (.tmp rfl) rfl rfl)) ?_
        refine WD_cons (.yes rfl rfl (by decide) rfl (ox_b2s (l := (nB id x v it)) hC (.tmp rfl) (by first | exact .row rfl | exact .vs | exact .sl rfl | exact .nils) (take_allI rfl) rfl Tryd.underlying22 Tryd.underlying5 Tryd.underlying9 rfl rfl)) ?_
        refine WD_cons (.yes rfl rfl (by decide) rfl (ox_eqs hC (.inr rfl) (.tmp rfl) (.tmp rfl) (r := true) (by simp [hbne]) rfl rfl)) ?_
        refine WD_cons (.plain rfl (ox_pick hC (.tmp rfl) .cbool (.tmp rfl) (by first | exact pick_t | exact pick_f | rfl) rfl rfl)) ?_
        refine WD_cons (.plain rfl (oc_move hC (.tmp rfl) rfl rfl)) ?_
        refine WD_cons (.yes rfl rfl (by decide) rfl (oc_call hC .nil (.same (by first | exact inSL_I _ | simp)) (awake18_c) (glob_cons rfl rfl (by first | exact inSL_I _ | simp) glob_nil) (by first | exact inSL_I _ | simp) (by first | exact .inl rfl | exact .inr (by simp)) rfl rfl)) ?_
        refine WD_cons (.plain rfl (ox_pick hC (.tmp rfl) (.tmp rfl) .cbool (by first | exact pick_t | exact pick_f | rfl) rfl rfl)) ?_
        refine WD_cons (.plain rfl (oc_assign hC (.tmp rfl) rfl rfl)) ?_
        refine WD_nil (by kernel_rfl) ?_
        refine W_ret ?_
        exact fin0 (.cons (.tmp rfl) .nil) rfl trivial
end Go.Proofs.YtibldhfgapjpfaaDoor
