/- Own work, printed by a program of this claim: walks through functions of the program. -/
import Derived.Test.YtibldhfgapjpfaaDoorW4
import Derived.Test.YtibldhfgapjpfaaDoorProg
import Derived.KernelRfl
set_option linter.unusedSimpArgs false
set_option linter.unusedVariables false
namespace Go.Proofs.YtibldhfgapjpfaaDoor
open Go.Sk Go.RowKit
attribute [local simp] AV.inSL AV.inS inSL_I Blk.inS Blk.cs AV.novs AV.novsL novsL_I AV.ren AV.cells AV.one lk tuAV
theorem bld_23 : bldOK Tryd.prog 23 = true := by kernel_rfl
theorem eg_25 : Tryd.prog.eqGuardType Tryd.prog.depth 25 = false := by kernel_rfl
theorem idx_36 : idx Tryd.prog 36 = some (none, 19) := by kernel_rfl
theorem kt_25 : Tryd.prog.keyTypeAt 8 25 = true := by kernel_rfl
theorem sg_25 : shp Tryd.prog 25 = some (true, Tryd.prog.cellsOf 25) := by kernel_rfl
theorem sh_25 : shOf Tryd.prog 8 25 = some (.st [.nums 16 .u8, .int .i64, .int .i64, .int .i64]) := by kernel_rfl
theorem zero_23 : zeroAV Tryd.prog 23 = some (I .u8 (List.replicate 16 0)) := by kernel_rfl
theorem japp0_c (id : List Int) (x v i : Int) (hid : id.length = 16) (bid : B8 id) (hR : RightN x v i) : FnC Tryd.prog 10 [(1000000, .rp (I .u32 nibT))] [.vs 0 (I .u8 []), .ag (noteX id x v i)] [] [(0, .row 5 1 (nB id x v i).length (I .u8 (nB id x v i)))] (.tu [.row 0, .i .i64 0]) := by
  have h := japp_c 0 [] rfl (by decide) id x v i hid bid hR
  rw [List.nil_append, Nat.zero_add] at h
  exact h
theorem app_cut {us ws : List Int} {m n : Nat} : I .u8 us ++ ((I .u8 ws).drop m).take (n * 1) = I .u8 (us ++ (ws.drop m).take n) := by simp [List.map_take, List.map_drop]
theorem NoN_take {d : NoteT} {n : Nat} (hd : NOK d) (h : n < (nBd d).length) : NoN ((nBd d).take n) := NoN_part hd (List.take_append_drop n _).symm (by intro e; have := congrArg List.length e; rw [List.length_drop] at this; simp at this; omega)
theorem nB_ge {d : NoteT} (hd : NOK d) : 21 ≤ (nBd d).length := by
  have h1 := (nL_le64 hd.1 hd.2.2).2
  unfold nBd; rw [length_nB hd.1]; omega
set_option maxRecDepth 20000 in
set_option maxHeartbeats 4000000 in
theorem awake18_c  : FnC Tryd.prog 9 [(1000000, .rp (I .u32 nibT))] [] [] [] (.b true) := by
  have hr1 : RightN 1 0 0 := by decide
  have hr2 : RightN 2 1 0 := by decide
  have ok1 : NOK (⟨(List.replicate 16 0), 1, 0, 0⟩ : NoteT) := ⟨rfl, (B8_zeros 16), hr1⟩
  have ok2 : NOK (⟨(List.replicate 16 0), 2, 1, 0⟩ : NoteT) := ⟨rfl, (B8_zeros 16), hr2⟩
  have hl1 : 21 ≤ (nB (List.replicate 16 0) 1 0 0).length := nB_ge ok1
  have hl1b : (nB (List.replicate 16 0) 1 0 0).length ≤ 42 := nBd_le (d := (⟨(List.replicate 16 0), 1, 0, 0⟩ : NoteT)) rfl
  have hl2b : (nB (List.replicate 16 0) 2 1 0).length ≤ 42 := nBd_le (d := (⟨(List.replicate 16 0), 2, 1, 0⟩ : NoteT)) rfl
  have b1 : B8 (nB (List.replicate 16 0) 1 0 0) := B8_nB rfl (B8_zeros 16) hr1
  have hfl : (nB (List.replicate 16 0) 1 0 0) ++ (nB (List.replicate 16 0) 2 1 0) = (flatB [(⟨(List.replicate 16 0), 1, 0, 0⟩ : NoteT), (⟨(List.replicate 16 0), 2, 1, 0⟩ : NoteT)]) := by rw [flatB_cons, flatB_cons, flatB_nil, List.append_nil]; rfl
  have hfn : (nB (List.replicate 16 0) 1 0 0).length + (nB (List.replicate 16 0) 2 1 0).length = (flatB [(⟨(List.replicate 16 0), 1, 0, 0⟩ : NoteT), (⟨(List.replicate 16 0), 2, 1, 0⟩ : NoteT)]).length := by rw [← hfl, List.length_append]
  have okD : ∀ d ∈ [(⟨(List.replicate 16 0), 1, 0, 0⟩ : NoteT), (⟨(List.replicate 16 0), 2, 1, 0⟩ : NoteT)], NOK d := by
    intro d hd
    simp only [List.mem_cons, List.not_mem_nil, or_false] at hd
    rcases hd with rfl | rfl
    · exact ok1
    · exact ok2
  have hcut : NoN ((nB (List.replicate 16 0) 1 0 0).take 10) := NoN_take (d := (⟨(List.replicate 16 0), 1, 0, 0⟩ : NoteT)) ok1 (by show 10 < (nB (List.replicate 16 0) 1 0 0).length; omega)
  have hLN : lastN (List.replicate 16 0) [(⟨(List.replicate 16 0), 1, 0, 0⟩ : NoteT), (⟨(List.replicate 16 0), 2, 1, 0⟩ : NoteT)] = (⟨(List.replicate 16 0), 2, 1, 0⟩ : NoteT) := by unfold lastN; rfl
  have hLB : lastB (List.replicate 16 0) [(⟨(List.replicate 16 0), 1, 0, 0⟩ : NoteT), (⟨(List.replicate 16 0), 2, 1, 0⟩ : NoteT)] = true := by unfold lastB; rfl
  have hcl : ((flatB [(⟨(List.replicate 16 0), 1, 0, 0⟩ : NoteT), (⟨(List.replicate 16 0), 2, 1, 0⟩ : NoteT)]) ++ (nB (List.replicate 16 0) 1 0 0).take 10).length = (flatB [(⟨(List.replicate 16 0), 1, 0, 0⟩ : NoteT), (⟨(List.replicate 16 0), 2, 1, 0⟩ : NoteT)]).length + 10 := by rw [List.length_append, List.length_take]; omega
  refine FnC.introR (N0 := 0) (T := 68) (E := [(1000000, .rp (I .u32 nibT))]) Tryd.func9 rfl (by decide) mix rfl rfl rfl (by simp) rfl trivial (by simp) (by intro S _ _ h; simp) (fun F n0 X w ρ hC hro => ?_)
  refine wsr ?_
  refine wp rfl hC (oc_assign hC .cbool rfl rfl) ?_
  refine WL_nil ?_
  refine wsr ?_
  refine wp rfl hC (ox_build (out' := noteX (List.replicate 16 0) 1 0 0) hC (.cons .cint .nil) zero_25 bld_25 rfl (by unfold noteX; rfl) rfl rfl) ?_
  refine wp rfl hC (oc_callN hC (.cons .cnils (.cons (.tmp rfl) .nil)) (.cons1 (by first | exact .free (by first | exact inSL_I _ | simp) | exact .row rfl rfl (by first | exact inSL_I _ | simp) | exact .nils | exact .sl1 rfl (by first | exact cut_I | rfl) (by first | exact inSL_I _ | simp)) (.cons1 (.free (by first | exact inSL_I _ | simp)) (.same (by first | exact inSL_I _ | simp)))) (japp0_c (List.replicate 16 0) 1 0 0 rfl (B8_zeros 16) hr1) (glob_cons rfl rfl (by first | exact inSL_I _ | simp) glob_nil) (by first | exact inSL_I _ | simp) rfl (by first | exact .inl rfl | exact .inr ⟨by simp, novsL_I _⟩ | exact .inr ⟨by simp, by simp⟩) rfl rfl) ?_
  refine wp rfl hC (oc_move hC (.tmp rfl) rfl rfl) ?_
  refine wp rfl hC (oc_extract hC (.tmp rfl) rfl rfl rfl) ?_
  refine wp rfl hC (oc_extract hC (.tmp rfl) rfl rfl rfl) ?_
  refine wp rfl hC (oc_assign hC (.tmp rfl) rfl rfl) ?_
  refine wp rfl hC (oc_assign hC (.tmp rfl) rfl rfl) ?_
  refine WL_nil ?_
  refine wsr ?_
  refine wp rfl hC (oc_move hC (.tmp rfl) rfl rfl) ?_
  refine wp rfl hC (ox_build (out' := noteX (List.replicate 16 0) 2 1 0) hC (.cons .cint (.cons .cint .nil)) zero_25 bld_25 rfl (by unfold noteX; rfl) rfl rfl) ?_
  refine wp rfl hC (oc_callN hC (.cons (.tmp rfl) (.cons (.tmp rfl) .nil)) (.cons1 (by first | exact .free (by first | exact inSL_I _ | simp) | exact .row rfl rfl (by first | exact inSL_I _ | simp) | exact .nils | exact .sl1 rfl (by first | exact cut_I | rfl) (by first | exact inSL_I _ | simp)) (.cons1 (.free (by first | exact inSL_I _ | simp)) (.same (by first | exact inSL_I _ | simp)))) (japp_c (nB (List.replicate 16 0) 1 0 0).length (nB (List.replicate 16 0) 1 0 0) rfl (by omega) (List.replicate 16 0) 2 1 0 rfl (B8_zeros 16) hr2) (glob_cons rfl rfl (by first | exact inSL_I _ | simp) glob_nil) (by first | exact inSL_I _ | simp) rfl (by first | exact .inl rfl | exact .inr ⟨by simp, novsL_I _⟩ | exact .inr ⟨by simp, by simp⟩) rfl rfl) ?_
  rw [hfl, hfn]
  refine wp rfl hC (oc_move hC (.tmp rfl) rfl rfl) ?_
  refine wp rfl hC (oc_extract hC (.tmp rfl) rfl rfl rfl) ?_
  refine wp rfl hC (oc_extract hC (.tmp rfl) rfl rfl rfl) ?_
  refine wp rfl hC (oc_assign hC (.tmp rfl) rfl rfl) ?_
  refine wp rfl hC (oc_assign hC (.tmp rfl) rfl rfl) ?_
  refine WL_nil ?_
  refine W_seq ?_
  refine wsr ?_
  refine wp rfl hC (oc_move hC (.tmp rfl) rfl rfl) ?_
  refine wp rfl hC (ox_len hC (.tmp rfl) (by first | exact .row rfl | exact .vs | exact .sl rfl | exact .nils) Tryd.underlying22 rfl rfl rfl) ?_
  refine wp rfl hC (ox_cmp hC rfl (.tmp rfl) .cint (r := false) (by simp only [cmpI]; exact decide_eq_false (by omega)) rfl rfl) ?_
  refine WL_nil ?_
  refine W_cond rfl (by decide) (fun hc => by cases hc) (fun _ => ?_)
  refine W_skip ?_
  refine W_seq ?_
  refine W_drawD hC ?_
  refine WD_cons (.plain rfl (ox_litRI (k := .u8) (ws := []) hC .nil Tryd.underlying22 cells_5 zero_5 rfl (by decide) rfl rfl (by first | rfl | simp) rfl rfl rfl)) ?_
  refine WD_cons (.plain rfl (oc_move hC (.tmp rfl) rfl rfl)) ?_
  refine WD_cons (.plain rfl (ox_append (n' := (flatB [(⟨(List.replicate 16 0), 1, 0, 0⟩ : NoteT), (⟨(List.replicate 16 0), 2, 1, 0⟩ : NoteT)]).length) (cs' := I .u8 (flatB [(⟨(List.replicate 16 0), 1, 0, 0⟩ : NoteT), (⟨(List.replicate 16 0), 2, 1, 0⟩ : NoteT)])) hC (.tmp rfl) (.tmp rfl) (by first | exact .row rfl rfl (by first | exact .here rfl | exact .s1 rfl rfl | exact .s2 rfl rfl rfl | exact .s3 rfl rfl rfl rfl | exact .s4 rfl rfl rfl rfl rfl | exact .s5 rfl rfl rfl rfl rfl rfl | exact .s6 rfl rfl rfl rfl rfl rfl rfl | exact .s7 rfl rfl rfl rfl rfl rfl rfl rfl | exact .s8 rfl rfl rfl rfl rfl rfl rfl rfl rfl) | exact .nils) (by first | exact .row rfl | exact .vs | exact .sl rfl | exact .nils) (by first | exact hro_nil | exact hro_one rfl) Tryd.underlying22 cells_5 bytes_5 zero_5 rfl (by decide) (by rw [length_I]; omega) (by first | rfl | exact one_takeI) (Nat.zero_add _) ((app_I (us := []) rfl).trans rfl) (by simp only [maxLen]; omega) (by omega) rfl rfl)) ?_
  refine WD_cons (.plain rfl (oc_move hC (.tmp rfl) rfl rfl)) ?_
  refine WD_cons (.plain rfl (ox_cutS hC (.tmp rfl) .no (.yes (n := 10) .cint (by first | rfl | omega | (simp; omega))) idx_22 (by first | exact .row rfl (Nat.mul_one _) | exact .sl rfl | exact .vs (by first | omega | (simp <;> fail) | (simp; omega)) | exact .nils) (by first | omega | (simp <;> fail) | (simp; omega)) (by first | omega | (simp <;> fail) | (simp; omega)) (by first | exact cut_vsI | rfl) rfl rfl)) ?_
  refine WD_cons (.plain rfl (ox_append (n' := ((flatB [(⟨(List.replicate 16 0), 1, 0, 0⟩ : NoteT), (⟨(List.replicate 16 0), 2, 1, 0⟩ : NoteT)]) ++ (nB (List.replicate 16 0) 1 0 0).take 10).length) (cs' := I .u8 ((flatB [(⟨(List.replicate 16 0), 1, 0, 0⟩ : NoteT), (⟨(List.replicate 16 0), 2, 1, 0⟩ : NoteT)]) ++ (nB (List.replicate 16 0) 1 0 0).take 10)) hC (.tmp rfl) (.tmp rfl) (by first | exact .row rfl rfl (by first | exact .here rfl | exact .s1 rfl rfl | exact .s2 rfl rfl rfl | exact .s3 rfl rfl rfl rfl | exact .s4 rfl rfl rfl rfl rfl | exact .s5 rfl rfl rfl rfl rfl rfl | exact .s6 rfl rfl rfl rfl rfl rfl rfl | exact .s7 rfl rfl rfl rfl rfl rfl rfl rfl | exact .s8 rfl rfl rfl rfl rfl rfl rfl rfl rfl) | exact .nils) (by first | exact .row rfl | exact .vs | exact .sl rfl | exact .nils) (by first | exact hro_nil | exact hro_one rfl) Tryd.underlying22 cells_5 bytes_5 zero_5 rfl (by decide) (by show 10 ≤ ((I .u8 (nB (List.replicate 16 0) 1 0 0)).drop 0).length; rw [List.drop_zero, length_I]; omega) (by exact one_takeA (one_dropA one_I)) (by omega) (by exact (app_cut (us := (flatB [(⟨(List.replicate 16 0), 1, 0, 0⟩ : NoteT), (⟨(List.replicate 16 0), 2, 1, 0⟩ : NoteT)])) (ws := (nB (List.replicate 16 0) 1 0 0)) (m := 0) (n := 10)).trans (by rw [List.drop_zero])) (by simp only [maxLen]; omega) (by omega) rfl rfl)) ?_
  refine WD_cons (.plain rfl (oc_callN hC (.cons (.tmp rfl) .nil) (.cons1 (by first | exact .free (by first | exact inSL_I _ | simp) | exact .row rfl rfl (by first | exact inSL_I _ | simp) | exact .nils | exact .sl1 rfl (by first | exact cut_I | rfl) (by first | exact inSL_I _ | simp)) (.same (by first | exact inSL_I _ | simp))) (scan_s ((flatB [(⟨(List.replicate 16 0), 1, 0, 0⟩ : NoteT), (⟨(List.replicate 16 0), 2, 1, 0⟩ : NoteT)]) ++ (nB (List.replicate 16 0) 1 0 0).take 10) [(⟨(List.replicate 16 0), 1, 0, 0⟩ : NoteT), (⟨(List.replicate 16 0), 2, 1, 0⟩ : NoteT)] ((nB (List.replicate 16 0) 1 0 0).take 10) rfl okD (fun x hx => b1 x (List.mem_of_mem_take hx)) hcut (by omega)) (glob_cons rfl rfl (by first | exact inSL_I _ | simp) glob_nil) (by first | exact inSL_I _ | simp) rfl (by first | exact .inl rfl | exact .inr ⟨by simp, novsL_I _⟩ | exact .inr ⟨by simp, by simp⟩) rfl rfl)) ?_
  refine WD_cons (.plain rfl (oc_move hC (.tmp rfl) rfl rfl)) ?_
  refine WD_cons (.plain rfl (oc_extract hC (.tmp rfl) rfl rfl rfl)) ?_
  refine WD_cons (.plain rfl (oc_extract hC (.tmp rfl) rfl rfl rfl)) ?_
  refine WD_cons (.plain rfl (oc_assign hC (.tmp rfl) rfl rfl)) ?_
  refine WD_cons (.plain rfl (oc_assign hC (.tmp rfl) rfl rfl)) ?_
  refine WD_nil (by kernel_rfl) ?_
  refine wsr ?_
  refine wp rfl hC (oc_move hC (.tmp rfl) rfl rfl) ?_
  refine wp rfl hC (ox_build (out' := I .u8 (List.replicate 16 0)) hC .nil zero_23 bld_23 rfl rfl rfl rfl) ?_
  refine wp rfl hC (oc_call hC (.cons (.tmp rfl) (.cons (.tmp rfl) .nil)) (.cons1 (by first | exact .free (by first | exact inSL_I _ | simp) | exact .row rfl rfl (by first | exact inSL_I _ | simp) | exact .nils | exact .sl1 rfl (by first | exact cut_I | rfl) (by first | exact inSL_I _ | simp)) (.cons1 (.free (by first | exact inSL_I _ | simp)) (.same (by first | exact inSL_I _ | simp)))) (last_s (flatB [(⟨(List.replicate 16 0), 1, 0, 0⟩ : NoteT), (⟨(List.replicate 16 0), 2, 1, 0⟩ : NoteT)]) [(⟨(List.replicate 16 0), 1, 0, 0⟩ : NoteT), (⟨(List.replicate 16 0), 2, 1, 0⟩ : NoteT)] [] (List.append_nil _).symm okD (by intro x hx; cases hx) NoN_nil (by omega) (List.replicate 16 0) rfl (B8_zeros 16)) (glob_cons rfl rfl (by first | exact inSL_I _ | simp) glob_nil) (by first | exact inSL_I _ | simp) (by first | exact .inl rfl | exact .inr (by simp)) rfl rfl) ?_
  rw [hLN, hLB]
  refine wp rfl hC (oc_move hC (.tmp rfl) rfl rfl) ?_
  refine wp rfl hC (oc_extract hC (.tmp rfl) rfl rfl rfl) ?_
  refine wp rfl hC (oc_extract hC (.tmp rfl) rfl rfl rfl) ?_
  refine wp rfl hC (ox_alloc (cs' := noteX (List.replicate 16 0) 0 0 0) hC zero_25 (by unfold noteX; rfl) rfl rfl) ?_
  refine wp rfl hC (ox_store (bk' := .blk 25 (noteX (List.replicate 16 0) 2 1 0)) hC (.tmp rfl) (.tmp rfl) rfl shp_25 flat_noteX (by rw [cells_ag, length_noteX rfl]) (by show _ ≤ (noteX _ _ _ _).length; rw [length_noteX rfl]; decide) (put_nall rfl rfl) (by first | exact .here | exact .s1 rfl | exact .s2 rfl rfl | exact .s3 rfl rfl rfl | exact .s4 rfl rfl rfl rfl | exact .s5 rfl rfl rfl rfl rfl | exact .s6 rfl rfl rfl rfl rfl rfl | exact .s7 rfl rfl rfl rfl rfl rfl rfl | exact .s8 rfl rfl rfl rfl rfl rfl rfl rfl) rfl) ?_
  refine wp rfl hC (oc_assign hC (.tmp rfl) rfl rfl) ?_
  refine WL_nil ?_
  refine wsr ?_
  refine wp rfl hC (oc_move hC (.tmp rfl) rfl rfl) ?_
  refine wp rfl hC (ox_cmp hC rfl (.tmp rfl) .cint (r := true) rfl rfl rfl) ?_
  refine wp rfl hC (oc_move hC (.tmp rfl) rfl rfl) ?_
  refine WL_cons hC.fn (.yes rfl rfl (by decide) rfl (oc_move hC (.tmp rfl) rfl rfl)) ?_
  refine WL_cons hC.fn (.yes rfl rfl (by decide) rfl (ox_cmp hC rfl (.tmp rfl) .cint (r := true) rfl rfl rfl)) ?_
  refine wp rfl hC (ox_pick hC (.tmp rfl) (.tmp rfl) .cbool (by first | exact pick_t | exact pick_f | rfl) rfl rfl) ?_
  refine wp rfl hC (oc_move hC (.tmp rfl) rfl rfl) ?_
  refine WL_cons hC.fn (.yes rfl rfl (by decide) rfl (oc_move hC (.tmp rfl) rfl rfl)) ?_
  refine WL_cons hC.fn (.yes rfl rfl (by decide) rfl (ox_len hC (.tmp rfl) (by first | exact .row rfl | exact .vs | exact .sl rfl | exact .nils) Tryd.underlying36 rfl rfl rfl)) ?_
  refine WL_cons hC.fn (.yes rfl rfl (by decide) rfl (ox_cmp hC rfl (.tmp rfl) .cint (r := true) rfl rfl rfl)) ?_
  refine wp rfl hC (ox_pick hC (.tmp rfl) (.tmp rfl) .cbool (by first | exact pick_t | exact pick_f | rfl) rfl rfl) ?_
  refine wp rfl hC (oc_move hC (.tmp rfl) rfl rfl) ?_
  refine WL_cons hC.fn (.yes rfl rfl (by decide) rfl (oc_move hC (.tmp rfl) rfl rfl)) ?_
  refine WL_cons hC.fn (.yes rfl rfl (by decide) rfl (oc_move hC (.tmp rfl) rfl rfl)) ?_
  refine WL_cons hC.fn (.yes rfl rfl (by decide) rfl (ox_len hC (.tmp rfl) (by first | exact .row rfl | exact .vs | exact .sl rfl | exact .nils) Tryd.underlying22 rfl rfl rfl)) ?_
  refine WL_cons hC.fn (.yes rfl rfl (by decide) rfl (ox_cmp hC rfl (.tmp rfl) (.tmp rfl) (r := true) (by simp [cmpI]) rfl rfl)) ?_
  refine wp rfl hC (ox_pick hC (.tmp rfl) (.tmp rfl) .cbool (by first | exact pick_t | exact pick_f | rfl) rfl rfl) ?_
  refine wp rfl hC (oc_move hC (.tmp rfl) rfl rfl) ?_
  refine WL_cons hC.fn (.yes rfl rfl (by decide) rfl (oc_field hC (.tmp rfl) fld_25_1 (by decide) (by first | exact .p (Nat.zero_add _) | exact .p rfl | exact .rp (by decide)) rfl rfl)) ?_
  refine WL_cons hC.fn (.yes rfl rfl (by decide) rfl (oc_load hC (.tmp rfl) (by first | exact .p rfl | exact .rp) shp_3 (by exact (unit_nx rfl)) rfl rfl)) ?_
  refine WL_cons hC.fn (.yes rfl rfl (by decide) rfl (ox_cmp hC rfl (.tmp rfl) .cint (r := true) rfl rfl rfl)) ?_
  refine wp rfl hC (ox_pick hC (.tmp rfl) (.tmp rfl) .cbool (by first | exact pick_t | exact pick_f | rfl) rfl rfl) ?_
  refine wp rfl hC (oc_move hC (.tmp rfl) rfl rfl) ?_
  refine WL_cons hC.fn (.yes rfl rfl (by decide) rfl (oc_move hC (.tmp rfl) rfl rfl)) ?_
  refine wp rfl hC (ox_pick hC (.tmp rfl) (.tmp rfl) .cbool (by first | exact pick_t | exact pick_f | rfl) rfl rfl) ?_
  refine wp rfl hC (oc_move hC (.tmp rfl) rfl rfl) ?_
  refine WL_cons hC.fn (.yes rfl rfl (by decide) rfl (oc_load hC (.tmp rfl) (by first | exact .p rfl | exact .rp) shp_25 (by exact (unit_nall rfl)) rfl rfl)) ?_
  refine WL_cons hC.fn (.yes rfl rfl (by decide) rfl (oc_call hC (.cons (.tmp rfl) .nil) (.cons1 (.free (by first | exact inSL_I _ | simp)) (.same (by first | exact inSL_I _ | simp))) (nright_t (List.replicate 16 0) 2 1 0 rfl (B8_zeros 16) hr2) glob_nil (by first | exact inSL_I _ | simp) (by first | exact .inl rfl | exact .inr (by simp)) rfl rfl)) ?_
  refine wp rfl hC (ox_pick hC (.tmp rfl) (.tmp rfl) .cbool (by first | exact pick_t | exact pick_f | rfl) rfl rfl) ?_
  refine wp rfl hC (oc_assign hC (.tmp rfl) rfl rfl) ?_
  refine WL_nil ?_
  refine W_ret ?_
  exact fin0 (.cons (.tmp rfl) .nil) rfl trivial
end Go.Proofs.YtibldhfgapjpfaaDoor
