/- Own work, printed by a program of this claim: walks through functions of the program. -/
import Derived.Test.YtibldhfgapjpfaaDoorW5
import Derived.Test.YtibldhfgapjpfaaDoorProg
import Derived.KernelRfl
set_option linter.unusedSimpArgs false
set_option linter.unusedVariables false
namespace Go.Proofs.YtibldhfgapjpfaaDoor
open Go.Sk Go.RowKit
attribute [local simp] AV.inSL AV.inS inSL_I Blk.inS Blk.cs AV.novs AV.novsL novsL_I AV.ren AV.cells AV.one lk tuAV


set_option maxRecDepth 20000 in
set_option maxHeartbeats 4000000 in
theorem law_JournalLast (D : List NoteT) (hIds : Ids D) (id : List Int) (hid : id.length = 16) (bid : B8 id) : FnC Tryd.prog 6 [(1000000, .rp (I .u32 nibT))] [.vs D.length (nts D), .ag (I .u8 id)] [] [] (.b true) := by
  have hnl := length_nts hIds
  have hrD := rts_ok hIds
  have hrI := Ids.of hrD
  have hLok := lastN_prop (id := id) (D := rts D) (P := NOK) hrD zNote_ok
  obtain ⟨hL1, hL2, hL3⟩ := hLok
  have hfl := flat_le hrI
  have hrl := rts_len D
  refine FnC.introR (N0 := 0) (T := 56) (E := [(0, .vs D.length (nts D)), (1, .ag (I .u8 id)), (1000000, .rp (I .u32 nibT))]) Tryd.func6 rfl (by decide) mix rfl rfl rfl (by simp) rfl ⟨(by first | exact inSL_I _ | trivial | simp), (by first | exact inSL_I _ | trivial | simp), trivial⟩ (by simp) (by intro S _ _ h; simp) (fun F n0 X w ρ hC hro => ?_)
  refine wsr ?_
  refine wp rfl hC (ox_box hC (.tmp rfl) (by first | rfl | exact flat_agI) (by first | exact cells_ag | rfl) rfl rfl) ?_
  refine wp rfl hC (oc_assign hC .cbool rfl rfl) ?_
  refine WL_nil ?_
  refine W_seq ?_
  refine W_seq ?_
  rcases Nat.lt_or_ge 40 D.length with h_ | h_
  ·
    refine W_region ?_
    refine wp rfl hC (oc_move hC (.tmp rfl) rfl rfl) ?_
    refine wp rfl hC (ox_len hC (.tmp rfl) (by first | exact .row rfl | exact .vs | exact .sl rfl | exact .nils) Tryd.underlying36 rfl rfl rfl) ?_
    refine wp rfl hC (ox_cmp hC rfl (.tmp rfl) .cint (r := true) (by simp only [cmpI]; exact decide_eq_true (by omega)) rfl rfl) ?_
    refine WL_nil ?_
    refine W_cond rfl (by decide) (fun _ => ?_) (fun hc => by cases hc)
    refine wsr ?_
    refine wp rfl hC (oc_call hC .nil (.same (by first | exact inSL_I _ | simp)) (awake18_c) (glob_cons rfl rfl (by first | exact inSL_I _ | simp) glob_nil) (by first | exact inSL_I _ | simp) (by first | exact .inl rfl | exact .inr (by simp)) rfl rfl) ?_
    refine wp rfl hC (oc_assign hC (.tmp rfl) rfl rfl) ?_
    refine WL_nil ?_
    refine W_ret ?_
    exact fin0 (.cons (.tmp rfl) .nil) rfl trivial
  ·
    refine W_region ?_
    refine wp rfl hC (oc_move hC (.tmp rfl) rfl rfl) ?_
    refine wp rfl hC (ox_len hC (.tmp rfl) (by first | exact .row rfl | exact .vs | exact .sl rfl | exact .nils) Tryd.underlying36 rfl rfl rfl) ?_
    refine wp rfl hC (ox_cmp hC rfl (.tmp rfl) .cint (r := false) (by simp only [cmpI]; exact decide_eq_false (by omega)) rfl rfl) ?_
    refine WL_nil ?_
    refine W_cond rfl (by decide) (fun hc => by cases hc) (fun _ => ?_)
    refine W_skip ?_
    refine wsr ?_
    refine wp rfl hC (oc_assign hC .cnils rfl rfl) ?_
    refine WL_nil ?_
    refine wsr ?_
    refine wp rfl hC (ox_alloc (cs' := noteX (List.replicate 16 0) 0 0 0) hC zero_25 (by unfold noteX; rfl) rfl rfl) ?_
    refine WL_nil ?_
    refine wsr ?_
    refine wp rfl hC (oc_assign hC .cbool rfl rfl) ?_
    refine WL_nil ?_
    refine W_seq ?_
    refine wsr ?_
    refine wp rfl hC (oc_move hC (.tmp rfl) rfl rfl) ?_
    refine wp rfl hC (ox_len hC (.tmp rfl) (by first | exact .row rfl | exact .vs | exact .sl rfl | exact .nils) Tryd.underlying36 rfl rfl rfl) ?_
    refine wp rfl hC (oc_move hC .cint rfl rfl) ?_
    refine WL_nil ?_
    refine W_blk ?_
    refine W_weak (weak_nil (t := 5) (e := 5) (sz := 1) rfl) ?_
    refine W_loopW (fun (ζ : Nat) => ⟨3, [(3, .p 0 0), (5, .row 2), (6, .p 1 0), (7, .b (lastB id (rts (D.take ζ)))), (18, .vs D.length (nts D)), (19, .i .i64 (D.length : Nat)), (20, .i .i64 ζ), (1000000, .rp (I .u32 nibT))], [(0, .blk 23 (I .u8 id)), (1, .blk 25 (noteX (lastN id (rts (D.take ζ))).id (lastN id (rts (D.take ζ))).nx (lastN id (rts (D.take ζ))).vo (lastN id (rts (D.take ζ))).it)), (2, .row 5 1 (flatB (rts (D.take ζ))).length (I .u8 (flatB (rts (D.take ζ)))))]⟩) (fun ζ => ζ ≤ D.length) (fun ζ => D.length - ζ) (0) (Nat.zero_le _) (weak (fun k => k) (.cons rfl (by first | rfl | simp) (by show _ < _; decide) (.cons rfl (by first | rfl | simp) (by show _ < _; decide) (.cons rfl (by first | rfl | simp) (by show _ < _; decide) (.cons rfl (congrArg AV.b (by unfold rts; rw [List.take_zero, List.filter_nil, lastB_nil])) trivial (.cons rfl (ren_free _ _ (by simp)) (by simp) (.cons rfl rfl trivial (.cons rfl rfl trivial (.cons rfl (by first | exact ren_agI | exact ren_vsI | exact ren_free _ _ (by first | exact inSL_I _ | simp)) (by first | exact inSL_I _ | simp) .nil)))))))) (.cons rfl (renBlk rfl) rfl (by first | exact inSL_I _ | simp) (.cons rfl (ren_noteB.trans (by unfold rts; rw [List.take_zero, List.filter_nil, lastN_nil]; rfl)) rfl (by first | exact inSL_I _ | simp) (.cons rfl (renRow (l' := []) (by unfold rts; rw [List.take_zero, List.filter_nil, flatB_nil]; rfl) (by unfold rts; rw [List.take_zero, List.filter_nil, flatB_nil])) rfl (by first | exact inSL_I _ | simp) .nil))) rfl rfl rfl) ?_
    intro i hR
    replace hR : i ≤ D.length := hR
    first | show W _ _ _ ⟨3, [(3, .p 0 0), (5, .row 2), (6, .p 1 0), (7, .b (lastB id (rts (D.take i)))), (18, .vs D.length (nts D)), (19, .i .i64 (D.length : Nat)), (20, .i .i64 i), (1000000, .rp (I .u32 nibT))], [(0, .blk 23 (I .u8 id)), (1, .blk 25 (noteX (lastN id (rts (D.take i))).id (lastN id (rts (D.take i))).nx (lastN id (rts (D.take i))).vo (lastN id (rts (D.take i))).it)), (2, .row 5 1 (flatB (rts (D.take i))).length (I .u8 (flatB (rts (D.take i)))))]⟩ | skip
    refine wsr ?_
    refine wp rfl hC (ox_cmp hC rfl (.tmp rfl) (.tmp rfl) rfl rfl rfl) ?_
    refine WL_nil ?_
    refine W_seq ?_
    refine W_cond rfl (by decide) (fun hc => ?_) (fun hc => ?_)
    ·
      replace hc := lss_t hc
      have hiD : i < D.length := by omega
      obtain ⟨d, hd⟩ : ∃ d, d = D[i]'hiD := ⟨_, rfl⟩
      obtain ⟨hdi, hd8⟩ := hIds d (by rw [hd]; exact List.getElem_mem _)
      have hrt := rts_take hiD hd
      have hLk := lastN_prop (id := id) (D := (rts (D.take i))) (P := fun d => d.id.length = 16) (fun e he => (rts_ok (fun q hq => hIds q (List.mem_of_mem_take hq)) e he).1) rfl
      have hd42 : (nB d.id d.nx d.vo d.it).length ≤ 42 := nBd_le (d := d) hdi
      have hfi := flat_le (D := (rts (D.take i))) (Ids.of (rts_ok (fun q hq => hIds q (List.mem_of_mem_take hq))))
      have hri := rts_len (D.take i)
      have hti : (D.take i).length ≤ 40 := by rw [List.length_take]; omega
      refine W_skip ?_
      refine W_seq ?_
      refine W_blk ?_
      refine wsr ?_
      refine wp rfl hC (ox_indexS hC (j := i) (.tmp rfl) (.tmp rfl) idx_36 (by first | rfl | omega | (simp; omega)) (by first | exact Nat.mul_one _ | rfl) (by first | exact .row rfl | exact .sl (Nat.zero_add _) | exact .sl rfl | exact .vs (by first | omega | (simp <;> fail) | (simp; omega))) (by omega) rfl rfl) ?_
      refine wp rfl hC (oc_load hC (v := .ag (noteX d.id d.nx d.vo d.it)) (.tmp rfl) (by first | exact .p rfl | exact .rp) shp_25 (by exact (unit_ntd hIds hiD hd)) rfl rfl) ?_
      refine wp rfl hC (ox_alloc (cs' := noteX (List.replicate 16 0) 0 0 0) hC zero_25 (by unfold noteX; rfl) rfl rfl) ?_
      refine wp rfl hC (ox_store (bk' := .blk 25 (noteX d.id d.nx d.vo d.it)) hC (.tmp rfl) (.tmp rfl) rfl shp_25 flat_noteX (by rw [cells_ag, length_noteX hdi]) (by show _ ≤ (noteX _ _ _ _).length; rw [length_noteX rfl]; decide) (put_nall rfl hdi) (by first | exact .here | exact .s1 rfl | exact .s2 rfl rfl | exact .s3 rfl rfl rfl | exact .s4 rfl rfl rfl rfl | exact .s5 rfl rfl rfl rfl rfl | exact .s6 rfl rfl rfl rfl rfl rfl | exact .s7 rfl rfl rfl rfl rfl rfl rfl | exact .s8 rfl rfl rfl rfl rfl rfl rfl rfl) rfl) ?_
      refine WL_nil ?_
      refine W_seq ?_
      rcases (show ¬ RightN d.nx d.vo d.it ∨ (RightN d.nx d.vo d.it ∧ d.id = id) ∨ (RightN d.nx d.vo d.it ∧ ¬ d.id = id) from by
        rcases Classical.em (RightN d.nx d.vo d.it) with c | c
        · rcases Classical.em (d.id = id) with e | e
          · exact .inr (.inl ⟨c, e⟩)
          · exact .inr (.inr ⟨c, e⟩)
        · exact .inl c) with hR | ⟨hR, hq⟩ | ⟨hR, hq⟩
      ·
        rw [if_neg hR] at hrt
        refine W_region ?_
        refine wp rfl hC (oc_move hC (.tmp rfl) rfl rfl) ?_
        refine wp rfl hC (oc_load hC (.tmp rfl) (by first | exact .p rfl | exact .rp) shp_25 (by exact (unit_nall hdi)) rfl rfl) ?_
        refine wp rfl hC (oc_call hC (.cons (.tmp rfl) (.cons (.tmp rfl) .nil)) (.cons1 (by first | exact .free (by first | exact inSL_I _ | simp) | exact .row rfl rfl (by first | exact inSL_I _ | simp) | exact .nils | exact .sl1 rfl (by first | exact cut_I | rfl) (by first | exact inSL_I _ | simp)) (.cons1 (.free (by first | exact inSL_I _ | simp)) (.same (by first | exact inSL_I _ | simp)))) (jappno_c (flatB (rts (D.take i))).length (flatB (rts (D.take i))) rfl (by omega) d.id d.nx d.vo d.it hdi hd8 hR) (glob_cons rfl rfl (by first | exact inSL_I _ | simp) glob_nil) (by first | exact inSL_I _ | simp) (by first | exact .inl rfl | exact .inr (by simp)) rfl rfl) ?_
        refine wp rfl hC (oc_move hC (.tmp rfl) rfl rfl) ?_
        refine wp rfl hC (oc_extract hC (.tmp rfl) rfl rfl rfl) ?_
        refine wp rfl hC (oc_extract hC (.tmp rfl) rfl rfl rfl) ?_
        refine wp rfl hC (oc_assign hC (.tmp rfl) rfl rfl) ?_
        refine wp rfl hC (oc_assign hC (.tmp rfl) rfl rfl) ?_
        refine WL_nil ?_
        refine W_seq ?_
        refine wsr ?_
        refine wp rfl hC (oc_move hC (.tmp rfl) rfl rfl) ?_
        refine wp rfl hC (ox_cmp hC rfl (.tmp rfl) .cint (r := true) rfl rfl rfl) ?_
        refine WL_nil ?_
        refine W_cond rfl (by decide) (fun _ => ?_) (fun hc => by cases hc)
        refine W_exit ?_
        refine W_region ?_
        refine wp rfl hC (oc_bin hC rfl (.tmp rfl) .cint (by first | exact i64_add (by omega) | rfl) rfl rfl) ?_
        refine wp rfl hC (oc_move hC (.tmp rfl) rfl rfl) ?_
        refine WL_nil ?_
        exact ⟨(i + 1), (by omega), (weak (fun k => k) (.cons rfl (by first | rfl | simp) (by show _ < _; decide) (.cons rfl (by first | rfl | simp) (by show _ < _; decide) (.cons rfl (by first | rfl | simp) (by show _ < _; decide) (.cons rfl (congrArg AV.b (by rw [hrt])) trivial (.cons rfl (ren_free _ _ (by simp)) (by simp) (.cons rfl (by first | rfl | exact congrArg (AV.i _) (by omega) | exact congrArg (AV.i _) (by simp; omega)) trivial (.cons rfl (by first | rfl | exact congrArg (AV.i _) (by omega) | exact congrArg (AV.i _) (by simp; omega)) trivial (.cons rfl (by first | exact ren_agI | exact ren_vsI | exact ren_free _ _ (by first | exact inSL_I _ | simp)) (by first | exact inSL_I _ | simp) .nil)))))))) (.cons rfl (renBlk rfl) rfl (by first | exact inSL_I _ | simp) (.cons rfl (ren_noteB.trans (by rw [hrt])) rfl (by first | exact inSL_I _ | simp) (.cons rfl (renRow (by rw [hrt]) (by rw [hrt])) rfl (by first | exact inSL_I _ | simp) .nil))) rfl rfl rfl), (by omega)⟩
      ·
        rw [if_pos hR] at hrt
        have hfn : (flatB (rts (D.take i))) ++ nB d.id d.nx d.vo d.it = flatB (rts (D.take (i + 1))) := by rw [hrt, flatB_append, flatB_cons, flatB_nil, List.append_nil]; rfl
        refine W_region ?_
        refine wp rfl hC (oc_move hC (.tmp rfl) rfl rfl) ?_
        refine wp rfl hC (oc_load hC (.tmp rfl) (by first | exact .p rfl | exact .rp) shp_25 (by exact (unit_nall hdi)) rfl rfl) ?_
        refine wp rfl hC (oc_callN hC (.cons (.tmp rfl) (.cons (.tmp rfl) .nil)) (.cons1 (by first | exact .free (by first | exact inSL_I _ | simp) | exact .row rfl rfl (by first | exact inSL_I _ | simp) | exact .nils | exact .sl1 rfl (by first | exact cut_I | rfl) (by first | exact inSL_I _ | simp)) (.cons1 (.free (by first | exact inSL_I _ | simp)) (.same (by first | exact inSL_I _ | simp)))) (japp_c (flatB (rts (D.take i))).length (flatB (rts (D.take i))) rfl (by omega) d.id d.nx d.vo d.it hdi hd8 hR) (glob_cons rfl rfl (by first | exact inSL_I _ | simp) glob_nil) (by first | exact inSL_I _ | simp) rfl (by first | exact .inl rfl | exact .inr ⟨by simp, novsL_I _⟩ | exact .inr ⟨by simp, by simp⟩) rfl rfl) ?_
        refine wp rfl hC (oc_move hC (.tmp rfl) rfl rfl) ?_
        refine wp rfl hC (oc_extract hC (.tmp rfl) rfl rfl rfl) ?_
        refine wp rfl hC (oc_extract hC (.tmp rfl) rfl rfl rfl) ?_
        refine wp rfl hC (oc_assign hC (.tmp rfl) rfl rfl) ?_
        refine wp rfl hC (oc_assign hC (.tmp rfl) rfl rfl) ?_
        refine WL_nil ?_
        refine W_seq ?_
        refine wsr ?_
        refine wp rfl hC (oc_move hC (.tmp rfl) rfl rfl) ?_
        refine wp rfl hC (ox_cmp hC rfl (.tmp rfl) .cint (r := false) rfl rfl rfl) ?_
        refine WL_nil ?_
        refine W_cond rfl (by decide) (fun hc => by cases hc) (fun _ => ?_)
        refine W_skip ?_
        refine wsr ?_
        refine wp rfl hC (oc_move hC (.tmp rfl) rfl rfl) ?_
        refine wp rfl hC (oc_assign hC (.tmp rfl) rfl rfl) ?_
        refine WL_nil ?_
        refine wsr ?_
        refine wp rfl hC (oc_field hC (.tmp rfl) fld_25_0 (by decide) (by first | exact .p (Nat.zero_add _) | exact .p rfl | exact .rp (by decide)) rfl rfl) ?_
        refine wp rfl hC (oc_load hC (.tmp rfl) (by first | exact .p rfl | exact .rp) shp_23 (by exact (unit_nid hdi)) rfl rfl) ?_
        refine wp rfl hC (oc_load hC (.tmp rfl) (by first | exact .p rfl | exact .rp) shp_23 (by exact (unit_all hid)) rfl rfl) ?_
        refine wp rfl hC (ox_eqI (r := true) hC (.inl rfl) (.tmp rfl) (.tmp rfl) sh_23 kt_23 sg_23 eg_23 hdi hid (wf_u8 hd8) (wf_u8 bid) (by simp [hq]) rfl rfl) ?_
        refine WL_nil ?_
        refine W_cond rfl (by decide) (fun _ => ?_) (fun hc => by cases hc)
        refine W_region ?_
        refine wp rfl hC (oc_load hC (.tmp rfl) (by first | exact .p rfl | exact .rp) shp_25 (by exact (unit_nall hdi)) rfl rfl) ?_
        refine wp rfl hC (ox_store (bk' := .blk 25 (noteX d.id d.nx d.vo d.it)) hC (.tmp rfl) (.tmp rfl) rfl shp_25 flat_noteX (by rw [cells_ag, length_noteX hdi]) (by show _ ≤ (noteX _ _ _ _).length; rw [length_noteX hLk]; decide) (put_nall hLk hdi) (by first | exact .here | exact .s1 rfl | exact .s2 rfl rfl | exact .s3 rfl rfl rfl | exact .s4 rfl rfl rfl rfl | exact .s5 rfl rfl rfl rfl rfl | exact .s6 rfl rfl rfl rfl rfl rfl | exact .s7 rfl rfl rfl rfl rfl rfl rfl | exact .s8 rfl rfl rfl rfl rfl rfl rfl rfl) rfl) ?_
        refine wp rfl hC (oc_assign hC .cbool rfl rfl) ?_
        refine WL_nil ?_
        refine W_region ?_
        refine wp rfl hC (oc_bin hC rfl (.tmp rfl) .cint (by first | exact i64_add (by omega) | rfl) rfl rfl) ?_
        refine wp rfl hC (oc_move hC (.tmp rfl) rfl rfl) ?_
        refine WL_nil ?_
        exact ⟨(i + 1), (by omega), (weak (fun k => bif Nat.beq k 2 then 4 else k) (.cons rfl (by first | rfl | simp) (by show _ < _; decide) (.cons rfl (by first | rfl | simp) (by show _ < _; decide) (.cons rfl (by first | rfl | simp) (by show _ < _; decide) (.cons rfl (congrArg AV.b (by rw [hrt, lastB_snoc, if_pos hq])) trivial (.cons rfl (ren_free _ _ (by simp)) (by simp) (.cons rfl (by first | rfl | exact congrArg (AV.i _) (by omega) | exact congrArg (AV.i _) (by simp; omega)) trivial (.cons rfl (by first | rfl | exact congrArg (AV.i _) (by omega) | exact congrArg (AV.i _) (by simp; omega)) trivial (.cons rfl (by first | exact ren_agI | exact ren_vsI | exact ren_free _ _ (by first | exact inSL_I _ | simp)) (by first | exact inSL_I _ | simp) .nil)))))))) (.cons rfl (renBlk rfl) rfl (by first | exact inSL_I _ | simp) (.cons rfl (ren_noteB.trans (by rw [hrt, lastN_snoc, if_pos hq])) rfl (by first | exact inSL_I _ | simp) (.cons rfl (renRow (by rw [← hfn]; simp) (by rw [← hfn])) rfl (by first | exact inSL_I _ | simp) .nil))) rfl rfl rfl), (by omega)⟩
      ·
        rw [if_pos hR] at hrt
        have hfn : (flatB (rts (D.take i))) ++ nB d.id d.nx d.vo d.it = flatB (rts (D.take (i + 1))) := by rw [hrt, flatB_append, flatB_cons, flatB_nil, List.append_nil]; rfl
        refine W_region ?_
        refine wp rfl hC (oc_move hC (.tmp rfl) rfl rfl) ?_
        refine wp rfl hC (oc_load hC (.tmp rfl) (by first | exact .p rfl | exact .rp) shp_25 (by exact (unit_nall hdi)) rfl rfl) ?_
        refine wp rfl hC (oc_callN hC (.cons (.tmp rfl) (.cons (.tmp rfl) .nil)) (.cons1 (by first | exact .free (by first | exact inSL_I _ | simp) | exact .row rfl rfl (by first | exact inSL_I _ | simp) | exact .nils | exact .sl1 rfl (by first | exact cut_I | rfl) (by first | exact inSL_I _ | simp)) (.cons1 (.free (by first | exact inSL_I _ | simp)) (.same (by first | exact inSL_I _ | simp)))) (japp_c (flatB (rts (D.take i))).length (flatB (rts (D.take i))) rfl (by omega) d.id d.nx d.vo d.it hdi hd8 hR) (glob_cons rfl rfl (by first | exact inSL_I _ | simp) glob_nil) (by first | exact inSL_I _ | simp) rfl (by first | exact .inl rfl | exact .inr ⟨by simp, novsL_I _⟩ | exact .inr ⟨by simp, by simp⟩) rfl rfl) ?_
        refine wp rfl hC (oc_move hC (.tmp rfl) rfl rfl) ?_
        refine wp rfl hC (oc_extract hC (.tmp rfl) rfl rfl rfl) ?_
        refine wp rfl hC (oc_extract hC (.tmp rfl) rfl rfl rfl) ?_
        refine wp rfl hC (oc_assign hC (.tmp rfl) rfl rfl) ?_
        refine wp rfl hC (oc_assign hC (.tmp rfl) rfl rfl) ?_
        refine WL_nil ?_
        refine W_seq ?_
        refine wsr ?_
        refine wp rfl hC (oc_move hC (.tmp rfl) rfl rfl) ?_
        refine wp rfl hC (ox_cmp hC rfl (.tmp rfl) .cint (r := false) rfl rfl rfl) ?_
        refine WL_nil ?_
        refine W_cond rfl (by decide) (fun hc => by cases hc) (fun _ => ?_)
        refine W_skip ?_
        refine wsr ?_
        refine wp rfl hC (oc_move hC (.tmp rfl) rfl rfl) ?_
        refine wp rfl hC (oc_assign hC (.tmp rfl) rfl rfl) ?_
        refine WL_nil ?_
        refine wsr ?_
        refine wp rfl hC (oc_field hC (.tmp rfl) fld_25_0 (by decide) (by first | exact .p (Nat.zero_add _) | exact .p rfl | exact .rp (by decide)) rfl rfl) ?_
        refine wp rfl hC (oc_load hC (.tmp rfl) (by first | exact .p rfl | exact .rp) shp_23 (by exact (unit_nid hdi)) rfl rfl) ?_
        refine wp rfl hC (oc_load hC (.tmp rfl) (by first | exact .p rfl | exact .rp) shp_23 (by exact (unit_all hid)) rfl rfl) ?_
        refine wp rfl hC (ox_eqI (r := false) hC (.inl rfl) (.tmp rfl) (.tmp rfl) sh_23 kt_23 sg_23 eg_23 hdi hid (wf_u8 hd8) (wf_u8 bid) (by simp [hq]) rfl rfl) ?_
        refine WL_nil ?_
        refine W_cond rfl (by decide) (fun hc => by cases hc) (fun _ => ?_)
        refine W_skip ?_
        refine W_region ?_
        refine wp rfl hC (oc_bin hC rfl (.tmp rfl) .cint (by first | exact i64_add (by omega) | rfl) rfl rfl) ?_
        refine wp rfl hC (oc_move hC (.tmp rfl) rfl rfl) ?_
        refine WL_nil ?_
        exact ⟨(i + 1), (by omega), (weak (fun k => bif Nat.beq k 2 then 4 else k) (.cons rfl (by first | rfl | simp) (by show _ < _; decide) (.cons rfl (by first | rfl | simp) (by show _ < _; decide) (.cons rfl (by first | rfl | simp) (by show _ < _; decide) (.cons rfl (congrArg AV.b (by rw [hrt, lastB_snoc, if_neg hq])) trivial (.cons rfl (ren_free _ _ (by simp)) (by simp) (.cons rfl (by first | rfl | exact congrArg (AV.i _) (by omega) | exact congrArg (AV.i _) (by simp; omega)) trivial (.cons rfl (by first | rfl | exact congrArg (AV.i _) (by omega) | exact congrArg (AV.i _) (by simp; omega)) trivial (.cons rfl (by first | exact ren_agI | exact ren_vsI | exact ren_free _ _ (by first | exact inSL_I _ | simp)) (by first | exact inSL_I _ | simp) .nil)))))))) (.cons rfl (renBlk rfl) rfl (by first | exact inSL_I _ | simp) (.cons rfl (ren_noteB.trans (by rw [hrt, lastN_snoc, if_neg hq])) rfl (by first | exact inSL_I _ | simp) (.cons rfl (renRow (by rw [← hfn]; simp) (by rw [← hfn])) rfl (by first | exact inSL_I _ | simp) .nil))) rfl rfl rfl), (by omega)⟩
    ·
      replace hc := lss_f hc
      obtain rfl : i = D.length := by omega
      rw [List.take_of_length_le (Nat.le_refl D.length)]
      refine W_exit ?_
      refine wsr ?_
      refine wp rfl hC (oc_move hC (.tmp rfl) rfl rfl) ?_
      refine wp rfl hC (oc_load hC (.tmp rfl) (by first | exact .p rfl | exact .rp) shp_23 (by exact (unit_all hid)) rfl rfl) ?_
      refine wp rfl hC (oc_call hC (.cons (.tmp rfl) (.cons (.tmp rfl) .nil)) (.cons1 (by first | exact .free (by first | exact inSL_I _ | simp) | exact .row rfl rfl (by first | exact inSL_I _ | simp) | exact .nils | exact .sl1 rfl (by first | exact cut_I | rfl) (by first | exact inSL_I _ | simp)) (.cons1 (.free (by first | exact inSL_I _ | simp)) (.same (by first | exact inSL_I _ | simp)))) (last_s (flatB (rts D)) (rts D) [] (List.append_nil _).symm hrD (by intro q hq; cases hq) NoN_nil (by omega) id hid bid) (glob_cons rfl rfl (by first | exact inSL_I _ | simp) glob_nil) (by first | exact inSL_I _ | simp) (by first | exact .inl rfl | exact .inr (by simp)) rfl rfl) ?_
      refine wp rfl hC (oc_move hC (.tmp rfl) rfl rfl) ?_
      refine wp rfl hC (oc_extract hC (.tmp rfl) rfl rfl rfl) ?_
      refine wp rfl hC (oc_extract hC (.tmp rfl) rfl rfl rfl) ?_
      refine wp rfl hC (ox_alloc (cs' := noteX (List.replicate 16 0) 0 0 0) hC zero_25 (by unfold noteX; rfl) rfl rfl) ?_
      refine wp rfl hC (ox_store (bk' := .blk 25 (noteX (lastN id (rts D)).id (lastN id (rts D)).nx (lastN id (rts D)).vo (lastN id (rts D)).it)) hC (.tmp rfl) (.tmp rfl) rfl shp_25 flat_noteX (by rw [cells_ag, length_noteX hL1]) (by show _ ≤ (noteX _ _ _ _).length; rw [length_noteX rfl]; decide) (put_nall rfl hL1) (by first | exact .here | exact .s1 rfl | exact .s2 rfl rfl | exact .s3 rfl rfl rfl | exact .s4 rfl rfl rfl rfl | exact .s5 rfl rfl rfl rfl rfl | exact .s6 rfl rfl rfl rfl rfl rfl | exact .s7 rfl rfl rfl rfl rfl rfl rfl | exact .s8 rfl rfl rfl rfl rfl rfl rfl rfl) rfl) ?_
      refine wp rfl hC (oc_assign hC (.tmp rfl) rfl rfl) ?_
      refine WL_nil ?_
      refine wsr ?_
      refine wp rfl hC (oc_load hC (.tmp rfl) (by first | exact .p rfl | exact .rp) shp_25 (by exact (unit_nall hL1)) rfl rfl) ?_
      refine wp rfl hC (oc_load hC (.tmp rfl) (by first | exact .p rfl | exact .rp) shp_25 (by exact (unit_nall hL1)) rfl rfl) ?_
      refine wp rfl hC (ox_eqS (r := true) hC (.inl rfl) (.tmp rfl) (.tmp rfl) sh_25 kt_25 sg_25 eg_25 (by simp [Sh.plain, Sh.plainL]) (note_hasR hL1 hL2 hL3) (note_hasR hL1 hL2 hL3) (by simp) rfl rfl) ?_
      refine wp rfl hC (oc_move hC (.tmp rfl) rfl rfl) ?_
      refine WL_cons hC.fn (.yes rfl rfl (by decide) rfl (oc_move hC (.tmp rfl) rfl rfl)) ?_
      refine WL_cons hC.fn (.yes rfl rfl (by decide) rfl (oc_move hC (.tmp rfl) rfl rfl)) ?_
      refine WL_cons hC.fn (.yes rfl rfl (by decide) rfl (oc_eqb (r := true) hC (.inl rfl) Tryd.underlying4 (.tmp rfl) (.tmp rfl) (by simp) rfl rfl)) ?_
      refine wp rfl hC (ox_pick hC (.tmp rfl) (.tmp rfl) .cbool (by first | exact pick_t | exact pick_f | rfl) rfl rfl) ?_
      refine wp rfl hC (oc_move hC (.tmp rfl) rfl rfl) ?_
      refine WL_cons hC.fn (.yes rfl rfl (by decide) rfl (oc_call hC .nil (.same (by first | exact inSL_I _ | simp)) (awake18_c) (glob_cons rfl rfl (by first | exact inSL_I _ | simp) glob_nil) (by first | exact inSL_I _ | simp) (by first | exact .inl rfl | exact .inr (by simp)) rfl rfl)) ?_
      refine wp rfl hC (ox_pick hC (.tmp rfl) (.tmp rfl) .cbool (by first | exact pick_t | exact pick_f | rfl) rfl rfl) ?_
      refine wp rfl hC (oc_assign hC (.tmp rfl) rfl rfl) ?_
      refine WL_nil ?_
      refine W_ret ?_
      exact fin0 (.cons (.tmp rfl) .nil) rfl trivial
end Go.Proofs.YtibldhfgapjpfaaDoor
