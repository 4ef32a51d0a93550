/- Own work, printed by a program of this claim: walks through functions of the program. -/
import Derived.Test.YtlcgojhopdikbaaDoorW6
import Derived.Test.YtlcgojhopdikbaaDoorProg
import Derived.KernelRfl
set_option linter.unusedSimpArgs false
set_option linter.unusedVariables false
namespace Go.Proofs.YtlcgojhopdikbaaDoor
open Go.Sk Go.RowKit
attribute [local simp] AV.inSL AV.inS inSL_I Blk.inS Blk.cs AV.novs AV.novsL novsL_I AV.ren AV.cells AV.one lk tuAV


set_option maxRecDepth 20000 in
set_option maxHeartbeats 4000000 in
theorem law_RecordReads (s : List Int) (bs_ : B8 s) : FnC Tryd.prog 4 [(1000000, .rp (I .u32 nibT))] [.vs s.length (I .u8 s)] [] [] (.b true) := by
  have hcase : 100 < s.length ∨ (s.length ≤ 100 ∧ (∃ (c wi t : Int) (dg : List Int), dg.length = 32 ∧ B8 dg ∧ MayP c wi t ∧ s = planL c wi t dg)) ∨ (s.length ≤ 100 ∧ (∃ e : Int, e ≠ 0 ∧ FnC Tryd.prog 14 [] [.vs s.length (I .u8 s)] [] [] (.tu [.ag (planX 0 0 0 (List.replicate 32 0)), .i .i64 e]))) := by
    rcases Nat.lt_or_ge 100 s.length with h_ | h_
    · exact .inl h_
    · rcases read_any s bs_ (by omega) with h2 | h2
      · exact .inr (.inl ⟨h_, h2⟩)
      · exact .inr (.inr ⟨h_, h2⟩)
  refine FnC.introR (N0 := 0) (T := 38) (E := [(0, .vs s.length (I .u8 s)), (1000000, .rp (I .u32 nibT))]) Tryd.func4 rfl (by decide) mix rfl rfl rfl (by simp) rfl ⟨(by first | exact inSL_I _ | trivial | simp), trivial⟩ (by simp) (by intro S _ _ h; simp) (fun F n0 X w ρ hC hro => ?_)
  refine wsr ?_
  refine wp rfl hC (oc_assign hC .cbool rfl rfl) ?_
  refine WL_nil ?_
  refine W_seq ?_
  refine W_seq ?_
  rcases hcase with h_ | ⟨h_, c, wi, t, dg, hdg, bdg, hM, hs⟩ | ⟨h_, e, he, hd⟩
  ·
    refine W_region ?_
    refine wp rfl hC (oc_move hC (.tmp rfl) rfl rfl) ?_
    refine wp rfl hC (ox_len hC (.tmp rfl) (by first | exact .row rfl | exact .vs | exact .sl rfl | exact .nils) Tryd.underlying25 rfl rfl rfl) ?_
    refine wp rfl hC (ox_cmp hC rfl (.tmp rfl) .cint (r := true) (by simp only [cmpI]; exact decide_eq_true (by omega)) rfl rfl) ?_
    refine WL_nil ?_
    refine W_cond rfl (by decide) (fun _ => ?_) (fun hc => by cases hc)
    refine wsr ?_
    refine wp rfl hC (oc_call hC .nil (.same (by first | exact inSL_I _ | simp)) (awake14_c) (glob_cons rfl rfl (by first | exact inSL_I _ | simp) glob_nil) (by first | exact inSL_I _ | simp) (by first | exact .inl rfl | exact .inr (by simp)) rfl rfl) ?_
    refine wp rfl hC (oc_assign hC (.tmp rfl) rfl rfl) ?_
    refine WL_nil ?_
    refine W_ret ?_
    exact fin0 (.cons (.tmp rfl) .nil) rfl trivial
  ·
    have hd := readpl_c c wi t dg hdg bdg hM
    rw [← hs] at hd
    have p1 := length_putV7 c.toNat
    have p2 := length_putV7 wi.toNat
    have p3 := length_putV7 t.toNat
    have hpl := length_planL c wi t dg
    refine W_region ?_
    refine wp rfl hC (oc_move hC (.tmp rfl) rfl rfl) ?_
    refine wp rfl hC (ox_len hC (.tmp rfl) (by first | exact .row rfl | exact .vs | exact .sl rfl | exact .nils) Tryd.underlying25 rfl rfl rfl) ?_
    refine wp rfl hC (ox_cmp hC rfl (.tmp rfl) .cint (r := false) (by simp only [cmpI]; exact decide_eq_false (by omega)) rfl rfl) ?_
    refine WL_nil ?_
    refine W_cond rfl (by decide) (fun hc => by cases hc) (fun _ => ?_)
    refine W_skip ?_
    refine wsr ?_
    refine wp rfl hC (oc_move hC (.tmp rfl) rfl rfl) ?_
    refine wp rfl hC (oc_call hC (.cons (.tmp rfl) .nil) (.cons1 (by first | exact .free (by first | exact inSL_I _ | simp) | exact .row rfl rfl (by first | exact inSL_I _ | simp) | exact .nils | exact .sl1 rfl (by first | exact cut_I | rfl) (by first | exact inSL_I _ | simp)) (.same (by first | exact inSL_I _ | simp))) (hd) glob_nil (by first | exact inSL_I _ | simp) (by first | exact .inl rfl | exact .inr (by simp)) rfl rfl) ?_
    refine wp rfl hC (oc_move hC (.tmp rfl) rfl rfl) ?_
    refine wp rfl hC (oc_extract hC (.tmp rfl) rfl rfl rfl) ?_
    refine wp rfl hC (oc_extract hC (.tmp rfl) rfl rfl rfl) ?_
    refine wp rfl hC (ox_alloc (cs' := planX 0 0 0 (List.replicate 32 0)) hC zero_24 (by unfold planX; rfl) rfl rfl) ?_
    refine wp rfl hC (ox_store (bk' := .blk 24 (planX c wi t dg)) hC (.tmp rfl) (.tmp rfl) rfl shp_24 flat_planX (by rw [cells_ag, length_planX hdg]) (by show _ ≤ (planX _ _ _ _).length; rw [length_planX rfl]; decide) (put_pall rfl hdg) (by first | exact .here | exact .s1 rfl | exact .s2 rfl rfl | exact .s3 rfl rfl rfl | exact .s4 rfl rfl rfl rfl | exact .s5 rfl rfl rfl rfl rfl | exact .s6 rfl rfl rfl rfl rfl rfl | exact .s7 rfl rfl rfl rfl rfl rfl rfl | exact .s8 rfl rfl rfl rfl rfl rfl rfl rfl) rfl) ?_
    refine wp rfl hC (oc_assign hC (.tmp rfl) rfl rfl) ?_
    refine WL_nil ?_
    refine W_seq ?_
    refine wsr ?_
    refine wp rfl hC (oc_move hC (.tmp rfl) rfl rfl) ?_
    refine wp rfl hC (ox_cmp hC rfl (.tmp rfl) .cint (r := false) rfl rfl rfl) ?_
    refine WL_nil ?_
    refine W_cond rfl (by decide) (fun hc => by cases hc) (fun _ => ?_)
    refine W_skip ?_
    refine W_seq ?_
    refine W_drawD hC ?_
    refine WD_cons (.plain rfl (oc_field hC (.tmp rfl) fld_24_0 (by decide) (by first | exact .p (Nat.zero_add _) | exact .p rfl | exact .rp (by decide)) rfl rfl)) ?_
    refine WD_cons (.plain rfl (oc_load hC (.tmp rfl) (by first | exact .p rfl | exact .rp) shp_3 (by exact unit_pc) rfl rfl)) ?_
    refine WD_cons (.plain rfl (oc_field hC (.tmp rfl) fld_24_1 (by decide) (by first | exact .p (Nat.zero_add _) | exact .p rfl | exact .rp (by decide)) rfl rfl)) ?_
    refine WD_cons (.plain rfl (oc_load hC (.tmp rfl) (by first | exact .p rfl | exact .rp) shp_3 (by exact unit_pw) rfl rfl)) ?_
    refine WD_cons (.plain rfl (oc_field hC (.tmp rfl) fld_24_2 (by decide) (by first | exact .p (Nat.zero_add _) | exact .p rfl | exact .rp (by decide)) rfl rfl)) ?_
    refine WD_cons (.plain rfl (oc_load hC (.tmp rfl) (by first | exact .p rfl | exact .rp) shp_3 (by exact unit_pt) rfl rfl)) ?_
    refine WD_cons (.plain rfl (oc_field hC (.tmp rfl) fld_24_3 (by decide) (by first | exact .p (Nat.zero_add _) | exact .p rfl | exact .rp (by decide)) rfl rfl)) ?_
    refine WD_cons (.plain rfl (ox_cutA hC (.tmp rfl) .no .no idx_22 (by first | omega | (simp <;> fail) | (simp; omega)) (by first | omega | (simp <;> fail) | (simp; omega)) (by first | exact .p (by first | (simp <;> fail) | rfl) | exact .rp (by first | omega | (simp <;> fail) | (simp; omega))) (by first | exact cut_vsI | rfl) rfl rfl)) ?_
    refine WD_cons (.plain rfl (oc_callN hC (.cons (.tmp rfl) (.cons (.tmp rfl) (.cons (.tmp rfl) (.cons (.tmp rfl) .nil)))) (.cons1 (.free (by simp)) (.cons1 (.free (by simp)) (.cons1 (.free (by simp)) (.cons1 (.sl1 rfl (by exact plan_dg hdg) (inSL_I _)) (.same (by simp)))))) (rbody_c c wi t dg hdg bdg hM) glob_nil (by first | exact inSL_I _ | simp) rfl (by first | exact .inl rfl | exact .inr ⟨by simp, novsL_I _⟩ | exact .inr ⟨by simp, by simp⟩) rfl rfl)) ?_
    refine WD_cons (.plain rfl (ox_b2s (l := (planL c wi t dg)) hC (.tmp rfl) (by first | exact .row rfl | exact .vs | exact .sl rfl | exact .nils) (take_allI rfl) rfl Tryd.underlying25 Tryd.underlying5 Tryd.underlying9 rfl rfl)) ?_
    refine WD_cons (.plain rfl (oc_move hC (.tmp rfl) rfl rfl)) ?_
    refine WD_cons (.plain rfl (ox_b2s (l := s) hC (.tmp rfl) (by first | exact .row rfl | exact .vs | exact .sl rfl | exact .nils) (take_allI rfl) rfl Tryd.underlying25 Tryd.underlying5 Tryd.underlying9 rfl rfl)) ?_
    refine WD_cons (.plain rfl (ox_eqs hC (.inl rfl) (.tmp rfl) (.tmp rfl) (r := true) (by rw [← hs]; simp) rfl rfl)) ?_
    refine WD_cons (.plain rfl (oc_move hC (.tmp rfl) rfl rfl)) ?_
    refine WD_cons (.yes rfl rfl (by decide) rfl (oc_call hC .nil (.same (by first | exact inSL_I _ | simp)) (awake14_c) (glob_cons rfl rfl (by first | exact inSL_I _ | simp) glob_nil) (by first | exact inSL_I _ | simp) (by first | exact .inl rfl | exact .inr (by simp)) rfl rfl)) ?_
    refine WD_cons (.plain rfl (ox_pick hC (.tmp rfl) (.tmp rfl) .cbool (by first | exact pick_t | exact pick_f | rfl) rfl rfl)) ?_
    refine WD_cons (.plain rfl (oc_assign hC (.tmp rfl) rfl rfl)) ?_
    refine WD_nil (by kernel_rfl) ?_
    refine W_ret ?_
    exact fin0 (.cons (.tmp rfl) .nil) rfl trivial
  ·
    refine W_region ?_
    refine wp rfl hC (oc_move hC (.tmp rfl) rfl rfl) ?_
    refine wp rfl hC (ox_len hC (.tmp rfl) (by first | exact .row rfl | exact .vs | exact .sl rfl | exact .nils) Tryd.underlying25 rfl rfl rfl) ?_
    refine wp rfl hC (ox_cmp hC rfl (.tmp rfl) .cint (r := false) (by simp only [cmpI]; exact decide_eq_false (by omega)) rfl rfl) ?_
    refine WL_nil ?_
    refine W_cond rfl (by decide) (fun hc => by cases hc) (fun _ => ?_)
    refine W_skip ?_
    refine wsr ?_
    refine wp rfl hC (oc_move hC (.tmp rfl) rfl rfl) ?_
    refine wp rfl hC (oc_call hC (.cons (.tmp rfl) .nil) (.cons1 (by first | exact .free (by first | exact inSL_I _ | simp) | exact .row rfl rfl (by first | exact inSL_I _ | simp) | exact .nils | exact .sl1 rfl (by first | exact cut_I | rfl) (by first | exact inSL_I _ | simp)) (.same (by first | exact inSL_I _ | simp))) (hd) glob_nil (by first | exact inSL_I _ | simp) (by first | exact .inl rfl | exact .inr (by simp)) rfl rfl) ?_
    refine wp rfl hC (oc_move hC (.tmp rfl) rfl rfl) ?_
    refine wp rfl hC (oc_extract hC (.tmp rfl) rfl rfl rfl) ?_
    refine wp rfl hC (oc_extract hC (.tmp rfl) rfl rfl rfl) ?_
    refine wp rfl hC (ox_alloc (cs' := planX 0 0 0 (List.replicate 32 0)) hC zero_24 (by unfold planX; rfl) rfl rfl) ?_
    refine wp rfl hC (ox_store (bk' := .blk 24 (planX 0 0 0 (List.replicate 32 0))) hC (.tmp rfl) (.tmp rfl) rfl shp_24 flat_planX (by rw [cells_ag, length_planX rfl]) (by show _ ≤ (planX _ _ _ _).length; rw [length_planX rfl]; decide) (put_pall rfl rfl) (by first | exact .here | exact .s1 rfl | exact .s2 rfl rfl | exact .s3 rfl rfl rfl | exact .s4 rfl rfl rfl rfl | exact .s5 rfl rfl rfl rfl rfl | exact .s6 rfl rfl rfl rfl rfl rfl | exact .s7 rfl rfl rfl rfl rfl rfl rfl | exact .s8 rfl rfl rfl rfl rfl rfl rfl rfl) rfl) ?_
    refine wp rfl hC (oc_assign hC (.tmp rfl) rfl rfl) ?_
    refine WL_nil ?_
    refine W_seq ?_
    refine wsr ?_
    refine wp rfl hC (oc_move hC (.tmp rfl) rfl rfl) ?_
    refine wp rfl hC (ox_cmp hC rfl (.tmp rfl) .cint (r := true) (by simp only [cmpI]; exact decide_eq_true he) rfl rfl) ?_
    refine WL_nil ?_
    refine W_cond rfl (by decide) (fun _ => ?_) (fun hc => by cases hc)
    refine wsr ?_
    refine wp rfl hC (oc_load hC (.tmp rfl) (by first | exact .p rfl | exact .rp) shp_24 (by exact (unit_pall rfl)) rfl rfl) ?_
    refine wp rfl hC (ox_build (out' := planX 0 0 0 (List.replicate 32 0)) hC .nil zero_24 bld_24 rfl (by unfold planX; rfl) rfl rfl) ?_
    refine wp rfl hC (ox_eqS (r := true) hC (.inl rfl) (.tmp rfl) (.tmp rfl) sh_24 kt_24 sg_24 eg_24 (by simp [Sh.plain, Sh.plainL]) (plan_has rfl (B8_zeros 32) (by decide)) (plan_has rfl (B8_zeros 32) (by decide)) (by simp) rfl rfl) ?_
    refine wp rfl hC (oc_move hC (.tmp rfl) rfl rfl) ?_
    refine WL_cons hC.fn (.yes rfl rfl (by decide) rfl (oc_call hC .nil (.same (by first | exact inSL_I _ | simp)) (awake14_c) (glob_cons rfl rfl (by first | exact inSL_I _ | simp) glob_nil) (by first | exact inSL_I _ | simp) (by first | exact .inl rfl | exact .inr (by simp)) rfl rfl)) ?_
    refine wp rfl hC (ox_pick hC (.tmp rfl) (.tmp rfl) .cbool (by first | exact pick_t | exact pick_f | rfl) rfl rfl) ?_
    refine wp rfl hC (oc_assign hC (.tmp rfl) rfl rfl) ?_
    refine WL_nil ?_
    refine W_ret ?_
    exact fin0 (.cons (.tmp rfl) .nil) rfl trivial
end Go.Proofs.YtlcgojhopdikbaaDoor
