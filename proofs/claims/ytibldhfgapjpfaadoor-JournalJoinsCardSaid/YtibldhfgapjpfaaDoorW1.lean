/- Own work, printed by a program of this claim: walks through functions of the program. -/
import Derived.Test.YtibldhfgapjpfaaDoorE
import Derived.Test.YtibldhfgapjpfaaDoorProg
import Derived.KernelRfl
set_option linter.unusedSimpArgs false
set_option linter.unusedVariables false
namespace Go.Proofs.YtibldhfgapjpfaaDoor
open Go.Sk Go.RowKit
attribute [local simp] AV.inSL AV.inS inSL_I Blk.inS Blk.cs AV.novs AV.novsL novsL_I AV.ren AV.cells AV.one lk tuAV
theorem mix : Tryd.prog.follows .mixedOrders = true := by kernel_rfl
theorem bld_73 : bldOK Tryd.prog 73 = true := by kernel_rfl
theorem bytes_5 : (Tryd.prog.info? 5).map (·.bytes) = some 1 := by kernel_rfl
theorem cells_5 : Tryd.prog.cellsOf 5 = 1 := by kernel_rfl
theorem fld_73_0 : fld Tryd.prog 73 0 = some (0, false, 1) := by kernel_rfl
theorem fld_73_1 : fld Tryd.prog 73 1 = some (1, false, 1) := by kernel_rfl
theorem idx_22 : idx Tryd.prog 22 = some (none, 1) := by kernel_rfl
theorem shp_22 : shp Tryd.prog 22 = some (false, 1) := by kernel_rfl
theorem shp_27 : shp Tryd.prog 27 = some (false, 1) := by kernel_rfl
theorem shp_3 : shp Tryd.prog 3 = some (false, 1) := by kernel_rfl
theorem shp_5 : shp Tryd.prog 5 = some (false, 1) := by kernel_rfl
theorem shp_51 : shp Tryd.prog 51 = some (false, 1) := by kernel_rfl
theorem zero_3 : zeroAV Tryd.prog 3 = some [.i .i64 0] := by kernel_rfl
theorem zero_5 : zeroAV Tryd.prog 5 = some [.i .u8 0] := by kernel_rfl
theorem zero_51 : zeroAV Tryd.prog 51 = some [.i .u64 0] := by kernel_rfl
theorem zero_73 : zeroAV Tryd.prog 73 = some [.nils, .i .i64 0] := by kernel_rfl
set_option maxRecDepth 20000 in
set_option maxHeartbeats 4000000 in
theorem clone_c (n : Nat) (b : List Int) (hb : b.length = n) (hl : n ≤ 1099511627776) : FnC Tryd.prog 28 [] [.vs n (I .u8 b)] [] [(0, .row 5 1 n (I .u8 b))] (.row 0) := by
  refine FnC.introR (N0 := 0) (T := 8) (E := [(0, .vs n (I .u8 b))]) Tryd.func28 rfl (by decide) mix rfl rfl rfl (by simp) rfl ⟨(by first | exact inSL_I _ | trivial | simp), trivial⟩ (by simp) (by
        intro S ha hr hw
        have s0 : S 0 := hw 0 (by first | (simp; done) | (show some _ ≠ none; simp)) (by first | rfl | simp)
        refine ⟨by first | exact inSL_I _ | simp [s0], fun k b hm => ?_⟩
        simp only [List.mem_cons, Prod.mk.injEq, List.not_mem_nil, or_false] at hm
        rcases hm with ⟨rfl, rfl⟩
        · exact ⟨s0, by first | exact inSL_I _ | simp [s0]⟩) (fun F n0 X w ρ hC hro => ?_)
  refine wsr ?_
  refine wp rfl hC (oc_assign hC .cnils rfl rfl) ?_
  refine WL_nil ?_
  refine W_seq ?_
  refine wsr ?_
  refine wp rfl hC (oc_move hC (.tmp rfl) rfl rfl) ?_
  refine WL_eqnil hC (.inl rfl) (.tmp rfl) Tryd.underlying22 rfl rfl (fun z hz => ?_)
  cases z
  ·
    refine WL_nil ?_
    refine W_cond rfl (by decide) (fun hc => by cases hc) (fun _ => ?_)
    refine W_skip ?_
    refine wsr ?_
    refine wp rfl hC (ox_litRI (k := .u8) (ws := []) hC .nil Tryd.underlying22 cells_5 zero_5 rfl (by decide) rfl rfl (by first | rfl | simp) rfl rfl rfl) ?_
    refine wp rfl hC (oc_move hC (.tmp rfl) rfl rfl) ?_
    refine wp rfl hC (ox_append (n' := n) (cs' := I .u8 b) hC (.tmp rfl) (.tmp rfl) (by first | exact .row rfl rfl (by first | exact .here rfl | exact .s1 rfl rfl | exact .s2 rfl rfl rfl | exact .s3 rfl rfl rfl rfl | exact .s4 rfl rfl rfl rfl rfl | exact .s5 rfl rfl rfl rfl rfl rfl | exact .s6 rfl rfl rfl rfl rfl rfl rfl | exact .s7 rfl rfl rfl rfl rfl rfl rfl rfl | exact .s8 rfl rfl rfl rfl rfl rfl rfl rfl rfl) | exact .nils) (by first | exact .row rfl | exact .vs | exact .sl rfl | exact .nils) (by first | exact hro_nil | exact hro_one rfl) Tryd.underlying22 cells_5 bytes_5 zero_5 rfl (by decide) (by rw [length_I]; omega) (by first | rfl | exact one_takeI) (Nat.zero_add _) ((app_I (us := []) hb).trans rfl) (by simp only [maxLen]; omega) (by omega) rfl rfl) ?_
    refine wp rfl hC (oc_assign hC (.tmp rfl) rfl rfl) ?_
    refine WL_nil ?_
    refine W_ret ?_
    exact fin1 (.cons (.tmp rfl) .nil) rfl rfl (inSL_I _)
  ·
    obtain rfl : b = [] := by
      have := hz rfl
      simpa using this
    subst hb
    refine WL_nil ?_
    refine W_cond rfl (by decide) (fun _ => ?_) (fun hc => by cases hc)
    refine wsr ?_
    refine wp rfl hC (oc_assign hC .cnils rfl rfl) ?_
    refine WL_weak (weak_nil (t := 2) (e := 5) (sz := 1) rfl) ?_
    refine WL_nil ?_
    refine W_ret ?_
    exact fin1 (.cons (.tmp rfl) .nil) rfl rfl (inSL_I _)
set_option maxRecDepth 20000 in
set_option maxHeartbeats 4000000 in
theorem new_c (n : Nat) (b : List Int) (hb : b.length = n) (hl : n ≤ 1099511627776) : FnC Tryd.prog 31 [] [.vs n (I .u8 b)] [] [(0, .blk 73 [.vs n (I .u8 b), .i .i64 0])] (.p 0 0) := by
  refine FnC.introR (N0 := 0) (T := 7) (E := [(0, .vs n (I .u8 b))]) Tryd.func31 rfl (by decide) mix rfl rfl rfl (by simp) rfl ⟨(by first | exact inSL_I _ | trivial | simp), trivial⟩ (by simp) (by
        intro S ha hr hw
        have s0 : S 0 := hw 0 (by first | (simp; done) | (show some _ ≠ none; simp)) (by first | rfl | simp)
        refine ⟨by first | exact inSL_I _ | simp [s0], fun k b hm => ?_⟩
        simp only [List.mem_cons, Prod.mk.injEq, List.not_mem_nil, or_false] at hm
        rcases hm with ⟨rfl, rfl⟩
        · exact ⟨s0, by first | exact inSL_I _ | simp [s0]⟩) (fun F n0 X w ρ hC hro => ?_)
  refine wsr ?_
  refine wp rfl hC (oc_assign hC .cnilp rfl rfl) ?_
  refine WL_nil ?_
  refine wsr ?_
  refine wp rfl hC (oc_move hC (.tmp rfl) rfl rfl) ?_
  refine wp rfl hC (oc_callN hC (.cons (.tmp rfl) .nil) (.cons1 (by first | exact .free (by first | exact inSL_I _ | simp) | exact .row rfl rfl (by first | exact inSL_I _ | simp) | exact .nils | exact .sl1 rfl (by first | exact cut_I | rfl) (by first | exact inSL_I _ | simp)) (.same (by first | exact inSL_I _ | simp))) (clone_c _ _ hb hl) glob_nil (by first | exact inSL_I _ | simp) rfl (by first | exact .inl rfl | exact .inr ⟨by simp, novsL_I _⟩ | exact .inr ⟨by simp, by simp⟩) rfl rfl) ?_
  refine WL_weak (weak_sl (t := 4) rfl rfl) ?_
  refine WL_weak (weak_slv (t := 4) (us := I .u8 b) rfl rfl (.here rfl) (by rw [length_I, List.drop_zero, hb]; exact take_allI hb) (by rw [length_I]; omega) (inSL_I _)) ?_
  refine wp rfl hC (ox_build (out' := [.vs n (I .u8 b), .i .i64 0]) hC (.cons (.tmp rfl) .nil) zero_73 bld_73 rfl rfl rfl rfl) ?_
  refine wp rfl hC (ox_box hC (.tmp rfl) (by first | rfl | exact flat_agI) (by first | exact cells_ag | rfl) rfl rfl) ?_
  refine wp rfl hC (oc_assign hC (.tmp rfl) rfl rfl) ?_
  refine WL_nil ?_
  refine W_ret ?_
  exact fin1 (.cons (.tmp rfl) .nil) rfl rfl (by simp)
set_option maxRecDepth 20000 in
set_option maxHeartbeats 4000000 in
theorem err_c (n : Nat) (b : List Int) (e : Int) (hb : b.length = n) (hb8 : B8 b) (hl : n ≤ 1099511627776) : FnC Tryd.prog 36 [] [.p 0 0] [(0, .blk 73 [.vs n (I .u8 b), .i .i64 e])] [(0, .blk 73 [.vs n (I .u8 b), .i .i64 e])] (.i .i64 e) := by
  refine FnC.introR (N0 := 1) (T := 9) (E := [(0, .p 0 0)]) Tryd.func36 rfl (by decide) mix rfl rfl rfl (by simp) rfl ⟨(by first | exact inSL_I _ | trivial | simp), trivial⟩ (by intro k b hm; simp only [List.mem_cons, Prod.mk.injEq, List.not_mem_nil, or_false] at hm; rcases hm with ⟨rfl, rfl⟩ <;> exact ⟨by decide, by first | exact inSL_I _ | simp⟩) (by
        intro S ha hr hw
        have s0 : S 0 := (hr 0 _ List.mem_cons_self).1
        refine ⟨by first | exact inSL_I _ | simp [s0], fun k b hm => ?_⟩
        simp only [List.mem_cons, Prod.mk.injEq, List.not_mem_nil, or_false] at hm
        rcases hm with ⟨rfl, rfl⟩
        · exact ⟨s0, by first | exact inSL_I _ | simp [s0]⟩) (fun F n0 X w ρ hC hro => ?_)
  refine wsr ?_
  refine wp rfl hC (oc_assign hC .cint rfl rfl) ?_
  refine WL_nil ?_
  refine W_seq ?_
  refine wsr ?_
  refine wp rfl hC (oc_move hC (.tmp rfl) rfl rfl) ?_
  refine wp rfl hC (oc_ptrnil (r := false) hC (.inl rfl) (.tmp rfl) (by first | exact .p | exact .nilp | exact .rp) Tryd.underlying61 rfl rfl rfl) ?_
  refine WL_nil ?_
  refine W_cond rfl (by decide) (fun hc => by cases hc) (fun _ => ?_)
  refine W_skip ?_
  refine wsr ?_
  refine wp rfl hC (oc_move hC (.tmp rfl) rfl rfl) ?_
  refine wp rfl hC (oc_nilCheck hC (.tmp rfl) rfl rfl) ?_
  refine wp rfl hC (oc_field hC (.tmp rfl) fld_73_1 (by decide) (by first | exact .p (Nat.zero_add _) | exact .p rfl | exact .rp (by decide)) rfl rfl) ?_
  refine wp rfl hC (oc_load hC (.tmp rfl) (by first | exact .p rfl | exact .rp) shp_27 (by first | exact unit_one rfl | exact unit_I (by first | omega | (simp <;> fail) | (simp; omega)) | exact unit_c rfl (by decide) | exact unit_c rfl (by simp)) rfl rfl) ?_
  refine wp rfl hC (oc_assign hC (.tmp rfl) rfl rfl) ?_
  refine WL_nil ?_
  refine W_ret ?_
  exact finK (fun k => k) (.cons (.tmp rfl) .nil) rfl (wr_cons rfl (Blk.ren_free (by simp) _) wr_nil) rfl rfl
set_option maxRecDepth 20000 in
set_option maxHeartbeats 4000000 in
theorem fail_c (n : Nat) (b : List Int) (e : Int) (hb : b.length = n) (hb8 : B8 b) (hl : n ≤ 1099511627776) (f e1 : Int) (he : (e = 0 ∧ e1 = f) ∨ (e ≠ 0 ∧ e1 = e)) : FnC Tryd.prog 41 [] [.p 0 0, .i .i64 f] [(0, .blk 73 [.vs n (I .u8 b), .i .i64 e])] [(0, .blk 73 [.vs n (I .u8 b), .i .i64 e1])] (.tu []) := by
  refine FnC.introR (N0 := 1) (T := 17) (E := [(0, .p 0 0), (1, .i .i64 f)]) Tryd.func41 rfl (by decide) mix rfl rfl rfl (by simp) rfl ⟨(by first | exact inSL_I _ | trivial | simp), (by first | exact inSL_I _ | trivial | simp), trivial⟩ (by intro k b hm; simp only [List.mem_cons, Prod.mk.injEq, List.not_mem_nil, or_false] at hm; rcases hm with ⟨rfl, rfl⟩ <;> exact ⟨by decide, by first | exact inSL_I _ | simp⟩) (by
        intro S ha hr hw
        have s0 : S 0 := (hr 0 _ List.mem_cons_self).1
        refine ⟨by first | exact inSL_I _ | simp [s0], fun k b hm => ?_⟩
        simp only [List.mem_cons, Prod.mk.injEq, List.not_mem_nil, or_false] at hm
        rcases hm with ⟨rfl, rfl⟩
        · exact ⟨s0, by first | exact inSL_I _ | simp [s0]⟩) (fun F n0 X w ρ hC hro => ?_)
  refine W_seq ?_
  rcases he with ⟨h1, h2⟩ | ⟨h1, h2⟩
  ·
    subst h2
    refine W_region ?_
    refine wp rfl hC (oc_move hC (.tmp rfl) rfl rfl) ?_
    refine wp rfl hC (oc_ptrnil (r := true) hC (.inr rfl) (.tmp rfl) (by first | exact .p | exact .nilp | exact .rp) Tryd.underlying61 rfl rfl rfl) ?_
    refine wp rfl hC (oc_move hC (.tmp rfl) rfl rfl) ?_
    refine WL_cons hC.fn (.yes rfl rfl (by decide) rfl (oc_move hC (.tmp rfl) rfl rfl)) ?_
    refine WL_cons hC.fn (.yes rfl rfl (by decide) rfl (oc_nilCheck hC (.tmp rfl) rfl rfl)) ?_
    refine WL_cons hC.fn (.yes rfl rfl (by decide) rfl (oc_field hC (.tmp rfl) fld_73_1 (by decide) (by first | exact .p (Nat.zero_add _) | exact .p rfl | exact .rp (by decide)) rfl rfl)) ?_
    refine WL_cons hC.fn (.yes rfl rfl (by decide) rfl (oc_load hC (.tmp rfl) (by first | exact .p rfl | exact .rp) shp_27 (by first | exact unit_one rfl | exact unit_I (by first | omega | (simp <;> fail) | (simp; omega)) | exact unit_c rfl (by decide) | exact unit_c rfl (by simp)) rfl rfl)) ?_
    refine WL_cons hC.fn (.yes rfl rfl (by decide) rfl (ox_cmp hC rfl (.tmp rfl) .cint (r := true) (by simp only [cmpI]; exact decide_eq_true (by omega)) rfl rfl)) ?_
    refine wp rfl hC (ox_pick hC (.tmp rfl) (.tmp rfl) .cbool (by first | exact pick_t | exact pick_f | rfl) rfl rfl) ?_
    refine WL_nil ?_
    refine W_cond rfl (by decide) (fun _ => ?_) (fun hc => by cases hc)
    refine W_region ?_
    refine wp rfl hC (oc_move hC (.tmp rfl) rfl rfl) ?_
    refine wp rfl hC (oc_move hC (.tmp rfl) rfl rfl) ?_
    refine wp rfl hC (oc_nilCheck hC (.tmp rfl) rfl rfl) ?_
    refine wp rfl hC (oc_field hC (.tmp rfl) fld_73_1 (by decide) (by first | exact .p (Nat.zero_add _) | exact .p rfl | exact .rp (by decide)) rfl rfl) ?_
    refine wp rfl hC (ox_store hC (.tmp rfl) (.tmp rfl) rfl shp_27 (by first | rfl | exact flat_agI) (by first | exact cells1 rfl | (rw [cells_ag, length_I]; omega) | rfl | (simp <;> fail) | (simp; omega)) (by first | exact Nat.le_refl _ | exact Nat.le_of_ble_eq_true rfl | decide | (simp <;> fail) | (simp; omega)) (by first | exact put_one rfl | exact put_blkI (by first | omega | (simp <;> fail) | (simp; omega)) | exact put_rowI (by first | omega | (simp <;> fail) | (simp; omega)) | rfl) (by first | exact .here | exact .s1 rfl | exact .s2 rfl rfl | exact .s3 rfl rfl rfl | exact .s4 rfl rfl rfl rfl | exact .s5 rfl rfl rfl rfl rfl | exact .s6 rfl rfl rfl rfl rfl rfl | exact .s7 rfl rfl rfl rfl rfl rfl rfl | exact .s8 rfl rfl rfl rfl rfl rfl rfl rfl) rfl) ?_
    refine WL_nil ?_
    exact finK (fun k => k) .nil rfl (wr_cons rfl (Blk.ren_free (by simp) _) wr_nil) rfl rfl
  ·
    subst h2
    refine W_region ?_
    refine wp rfl hC (oc_move hC (.tmp rfl) rfl rfl) ?_
    refine wp rfl hC (oc_ptrnil (r := true) hC (.inr rfl) (.tmp rfl) (by first | exact .p | exact .nilp | exact .rp) Tryd.underlying61 rfl rfl rfl) ?_
    refine wp rfl hC (oc_move hC (.tmp rfl) rfl rfl) ?_
    refine WL_cons hC.fn (.yes rfl rfl (by decide) rfl (oc_move hC (.tmp rfl) rfl rfl)) ?_
    refine WL_cons hC.fn (.yes rfl rfl (by decide) rfl (oc_nilCheck hC (.tmp rfl) rfl rfl)) ?_
    refine WL_cons hC.fn (.yes rfl rfl (by decide) rfl (oc_field hC (.tmp rfl) fld_73_1 (by decide) (by first | exact .p (Nat.zero_add _) | exact .p rfl | exact .rp (by decide)) rfl rfl)) ?_
    refine WL_cons hC.fn (.yes rfl rfl (by decide) rfl (oc_load hC (.tmp rfl) (by first | exact .p rfl | exact .rp) shp_27 (by first | exact unit_one rfl | exact unit_I (by first | omega | (simp <;> fail) | (simp; omega)) | exact unit_c rfl (by decide) | exact unit_c rfl (by simp)) rfl rfl)) ?_
    refine WL_cons hC.fn (.yes rfl rfl (by decide) rfl (ox_cmp hC rfl (.tmp rfl) .cint (r := false) (by simp only [cmpI]; exact decide_eq_false (by omega)) rfl rfl)) ?_
    refine wp rfl hC (ox_pick hC (.tmp rfl) (.tmp rfl) .cbool (by first | exact pick_t | exact pick_f | rfl) rfl rfl) ?_
    refine WL_nil ?_
    refine W_cond rfl (by decide) (fun hc => by cases hc) (fun _ => ?_)
    refine W_skip ?_
    exact finK (fun k => k) .nil rfl (wr_cons rfl (Blk.ren_free (by simp) _) wr_nil) rfl rfl
set_option maxRecDepth 20000 in
set_option maxHeartbeats 4000000 in
theorem left_c (n : Nat) (b : List Int) (e : Int) (hb : b.length = n) (hb8 : B8 b) (hl : n ≤ 1099511627776) (v : Int) (hv : (e = 0 ∧ v = n) ∨ (e ≠ 0 ∧ v = 0)) : FnC Tryd.prog 33 [] [.p 0 0] [(0, .blk 73 [.vs n (I .u8 b), .i .i64 e])] [(0, .blk 73 [.vs n (I .u8 b), .i .i64 e])] (.i .i64 v) := by
  refine FnC.introR (N0 := 1) (T := 11) (E := [(0, .p 0 0)]) Tryd.func33 rfl (by decide) mix rfl rfl rfl (by simp) rfl ⟨(by first | exact inSL_I _ | trivial | simp), trivial⟩ (by intro k b hm; simp only [List.mem_cons, Prod.mk.injEq, List.not_mem_nil, or_false] at hm; rcases hm with ⟨rfl, rfl⟩ <;> exact ⟨by decide, by first | exact inSL_I _ | simp⟩) (by
        intro S ha hr hw
        have s0 : S 0 := (hr 0 _ List.mem_cons_self).1
        refine ⟨by first | exact inSL_I _ | simp [s0], fun k b hm => ?_⟩
        simp only [List.mem_cons, Prod.mk.injEq, List.not_mem_nil, or_false] at hm
        rcases hm with ⟨rfl, rfl⟩
        · exact ⟨s0, by first | exact inSL_I _ | simp [s0]⟩) (fun F n0 X w ρ hC hro => ?_)
  refine wsr ?_
  refine wp rfl hC (oc_assign hC .cint rfl rfl) ?_
  refine WL_nil ?_
  refine W_seq ?_
  refine W_seq ?_
  rcases hv with ⟨h1, h2⟩ | ⟨h1, h2⟩
  ·
    subst h2
    refine W_region ?_
    refine wp rfl hC (oc_move hC (.tmp rfl) rfl rfl) ?_
    refine wp rfl hC (oc_callG (τ := fun k => bif Nat.beq k 0 then 0 else k) (N' := 1) hC .func (.cons (.tmp rfl) .nil) (.own (by first | rfl | simp) .end) (err_c n b e hb hb8 hl) glob_nil (mr_cons (by first | exact ren_blkI | exact ren_rowI | exact Blk.ren_free (by simp) _ | rfl) rfl mr_nil) (mr_cons (by first | exact ren_blkI | exact ren_rowI | exact Blk.ren_free (by simp) _ | rfl) rfl mr_nil) rfl (rd_cons rfl rd_nil) rfl rfl rfl rfl (by first | exact .inl rfl | exact .inr ⟨by simp, (nv_cons (by first | exact novsL_I _ | simp) nv_nil)⟩) rfl (dst_ok rfl rfl) (fun t => setE_cons _ _ _ _)) ?_
    refine wp rfl hC (ox_cmp hC rfl (.tmp rfl) .cint (r := false) (by simp only [cmpI]; exact decide_eq_false (by omega)) rfl rfl) ?_
    refine WL_nil ?_
    refine W_cond rfl (by decide) (fun hc => by cases hc) (fun _ => ?_)
    refine W_skip ?_
    refine wsr ?_
    refine wp rfl hC (oc_move hC (.tmp rfl) rfl rfl) ?_
    refine wp rfl hC (oc_nilCheck hC (.tmp rfl) rfl rfl) ?_
    refine wp rfl hC (oc_field hC (.tmp rfl) fld_73_0 (by decide) (by first | exact .p (Nat.zero_add _) | exact .p rfl | exact .rp (by decide)) rfl rfl) ?_
    refine wp rfl hC (oc_load hC (.tmp rfl) (by first | exact .p rfl | exact .rp) shp_22 (by first | exact unit_one rfl | exact unit_I (by first | omega | (simp <;> fail) | (simp; omega)) | exact unit_c rfl (by decide) | exact unit_c rfl (by simp)) rfl rfl) ?_
    refine wp rfl hC (ox_len hC (.tmp rfl) (by first | exact .row rfl | exact .vs | exact .sl rfl | exact .nils) Tryd.underlying22 rfl rfl rfl) ?_
    refine wp rfl hC (oc_assign hC (.tmp rfl) rfl rfl) ?_
    refine WL_nil ?_
    refine W_ret ?_
    exact finK (fun k => k) (.cons (.tmp rfl) .nil) rfl (wr_cons rfl (Blk.ren_free (by simp) _) wr_nil) rfl rfl
  ·
    subst h2
    refine W_region ?_
    refine wp rfl hC (oc_move hC (.tmp rfl) rfl rfl) ?_
    refine wp rfl hC (oc_callG (τ := fun k => bif Nat.beq k 0 then 0 else k) (N' := 1) hC .func (.cons (.tmp rfl) .nil) (.own (by first | rfl | simp) .end) (err_c n b e hb hb8 hl) glob_nil (mr_cons (by first | exact ren_blkI | exact ren_rowI | exact Blk.ren_free (by simp) _ | rfl) rfl mr_nil) (mr_cons (by first | exact ren_blkI | exact ren_rowI | exact Blk.ren_free (by simp) _ | rfl) rfl mr_nil) rfl (rd_cons rfl rd_nil) rfl rfl rfl rfl (by first | exact .inl rfl | exact .inr ⟨by simp, (nv_cons (by first | exact novsL_I _ | simp) nv_nil)⟩) rfl (dst_ok rfl rfl) (fun t => setE_cons _ _ _ _)) ?_
    refine wp rfl hC (ox_cmp hC rfl (.tmp rfl) .cint (r := true) (by simp only [cmpI]; exact decide_eq_true (by omega)) rfl rfl) ?_
    refine WL_nil ?_
    refine W_cond rfl (by decide) (fun _ => ?_) (fun hc => by cases hc)
    refine wsr ?_
    refine wp rfl hC (oc_assign hC .cint rfl rfl) ?_
    refine WL_nil ?_
    refine W_ret ?_
    exact finK (fun k => k) (.cons (.tmp rfl) .nil) rfl (wr_cons rfl (Blk.ren_free (by simp) _) wr_nil) rfl rfl
set_option maxRecDepth 20000 in
set_option maxHeartbeats 4000000 in
theorem end_c (n : Nat) (b : List Int) (e : Int) (hb : b.length = n) (hb8 : B8 b) (hl : n ≤ 1099511627776) (v : Int) (hv : (e = 0 ∧ 0 < n ∧ v = 5) ∨ (e = 0 ∧ n = 0 ∧ v = 0) ∨ (e ≠ 0 ∧ v = e)) : FnC Tryd.prog 37 [] [.p 0 0] [(0, .blk 73 [.vs n (I .u8 b), .i .i64 e])] [(0, .blk 73 [.vs n (I .u8 b), .i .i64 e])] (.i .i64 v) := by
  refine FnC.introR (N0 := 1) (T := 8) (E := [(0, .p 0 0)]) Tryd.func37 rfl (by decide) mix rfl rfl rfl (by simp) rfl ⟨(by first | exact inSL_I _ | trivial | simp), trivial⟩ (by intro k b hm; simp only [List.mem_cons, Prod.mk.injEq, List.not_mem_nil, or_false] at hm; rcases hm with ⟨rfl, rfl⟩ <;> exact ⟨by decide, by first | exact inSL_I _ | simp⟩) (by
        intro S ha hr hw
        have s0 : S 0 := (hr 0 _ List.mem_cons_self).1
        refine ⟨by first | exact inSL_I _ | simp [s0], fun k b hm => ?_⟩
        simp only [List.mem_cons, Prod.mk.injEq, List.not_mem_nil, or_false] at hm
        rcases hm with ⟨rfl, rfl⟩
        · exact ⟨s0, by first | exact inSL_I _ | simp [s0]⟩) (fun F n0 X w ρ hC hro => ?_)
  refine wsr ?_
  refine wp rfl hC (oc_assign hC .cint rfl rfl) ?_
  refine WL_nil ?_
  refine W_seq ?_
  refine W_seq ?_
  rcases hv with ⟨h1, h2, h3⟩ | ⟨h1, h2, h3⟩ | ⟨h1, h3⟩
  ·
    refine W_region ?_
    refine wp rfl hC (oc_move hC (.tmp rfl) rfl rfl) ?_
    refine wp rfl hC (oc_callG (τ := fun k => bif Nat.beq k 0 then 0 else k) (N' := 1) hC .func (.cons (.tmp rfl) .nil) (.own (by first | rfl | simp) .end) (left_c n b e hb hb8 hl n (.inl ⟨h1, rfl⟩)) glob_nil (mr_cons (by first | exact ren_blkI | exact ren_rowI | exact Blk.ren_free (by simp) _ | rfl) rfl mr_nil) (mr_cons (by first | exact ren_blkI | exact ren_rowI | exact Blk.ren_free (by simp) _ | rfl) rfl mr_nil) rfl (rd_cons rfl rd_nil) rfl rfl rfl rfl (by first | exact .inl rfl | exact .inr ⟨by simp, (nv_cons (by first | exact novsL_I _ | simp) nv_nil)⟩) rfl (dst_ok rfl rfl) (fun t => setE_cons _ _ _ _)) ?_
    refine wp rfl hC (ox_cmp hC rfl (.tmp rfl) .cint (r := true) (by simp only [cmpI]; exact decide_eq_true (by omega)) rfl rfl) ?_
    refine WL_nil ?_
    refine W_cond rfl (by decide) (fun _ => ?_) (fun hc => by cases hc)
    refine wsr ?_
    refine wp rfl hC (oc_assign hC .cint rfl rfl) ?_
    refine WL_nil ?_
    refine W_ret ?_
    exact finK (fun k => k) (.cons (.tmp rfl) .nil) (by first | exact congrArg (AV.i .i64) h3 | exact congrArg (AV.i .i64) (h3.trans h1.symm)) (wr_cons rfl (Blk.ren_free (by simp) _) wr_nil) rfl rfl
  ·
    refine W_region ?_
    refine wp rfl hC (oc_move hC (.tmp rfl) rfl rfl) ?_
    refine wp rfl hC (oc_callG (τ := fun k => bif Nat.beq k 0 then 0 else k) (N' := 1) hC .func (.cons (.tmp rfl) .nil) (.own (by first | rfl | simp) .end) (left_c n b e hb hb8 hl n (.inl ⟨h1, rfl⟩)) glob_nil (mr_cons (by first | exact ren_blkI | exact ren_rowI | exact Blk.ren_free (by simp) _ | rfl) rfl mr_nil) (mr_cons (by first | exact ren_blkI | exact ren_rowI | exact Blk.ren_free (by simp) _ | rfl) rfl mr_nil) rfl (rd_cons rfl rd_nil) rfl rfl rfl rfl (by first | exact .inl rfl | exact .inr ⟨by simp, (nv_cons (by first | exact novsL_I _ | simp) nv_nil)⟩) rfl (dst_ok rfl rfl) (fun t => setE_cons _ _ _ _)) ?_
    refine wp rfl hC (ox_cmp hC rfl (.tmp rfl) .cint (r := false) (by simp only [cmpI]; exact decide_eq_false (by omega)) rfl rfl) ?_
    refine WL_nil ?_
    refine W_cond rfl (by decide) (fun hc => by cases hc) (fun _ => ?_)
    refine W_skip ?_
    refine wsr ?_
    refine wp rfl hC (oc_move hC (.tmp rfl) rfl rfl) ?_
    refine wp rfl hC (oc_callG (τ := fun k => bif Nat.beq k 0 then 0 else k) (N' := 1) hC .func (.cons (.tmp rfl) .nil) (.own (by first | rfl | simp) .end) (err_c n b e hb hb8 hl) glob_nil (mr_cons (by first | exact ren_blkI | exact ren_rowI | exact Blk.ren_free (by simp) _ | rfl) rfl mr_nil) (mr_cons (by first | exact ren_blkI | exact ren_rowI | exact Blk.ren_free (by simp) _ | rfl) rfl mr_nil) rfl (rd_cons rfl rd_nil) rfl rfl rfl rfl (by first | exact .inl rfl | exact .inr ⟨by simp, (nv_cons (by first | exact novsL_I _ | simp) nv_nil)⟩) rfl (dst_ok rfl rfl) (fun t => setE_cons _ _ _ _)) ?_
    refine wp rfl hC (oc_assign hC (.tmp rfl) rfl rfl) ?_
    refine WL_nil ?_
    refine W_ret ?_
    exact finK (fun k => k) (.cons (.tmp rfl) .nil) (by first | exact congrArg (AV.i .i64) h3 | exact congrArg (AV.i .i64) (h3.trans h1.symm)) (wr_cons rfl (Blk.ren_free (by simp) _) wr_nil) rfl rfl
  ·
    refine W_region ?_
    refine wp rfl hC (oc_move hC (.tmp rfl) rfl rfl) ?_
    refine wp rfl hC (oc_callG (τ := fun k => bif Nat.beq k 0 then 0 else k) (N' := 1) hC .func (.cons (.tmp rfl) .nil) (.own (by first | rfl | simp) .end) (left_c n b e hb hb8 hl 0 (.inr ⟨h1, rfl⟩)) glob_nil (mr_cons (by first | exact ren_blkI | exact ren_rowI | exact Blk.ren_free (by simp) _ | rfl) rfl mr_nil) (mr_cons (by first | exact ren_blkI | exact ren_rowI | exact Blk.ren_free (by simp) _ | rfl) rfl mr_nil) rfl (rd_cons rfl rd_nil) rfl rfl rfl rfl (by first | exact .inl rfl | exact .inr ⟨by simp, (nv_cons (by first | exact novsL_I _ | simp) nv_nil)⟩) rfl (dst_ok rfl rfl) (fun t => setE_cons _ _ _ _)) ?_
    refine wp rfl hC (ox_cmp hC rfl (.tmp rfl) .cint (r := false) rfl rfl rfl) ?_
    refine WL_nil ?_
    refine W_cond rfl (by decide) (fun hc => by cases hc) (fun _ => ?_)
    refine W_skip ?_
    refine wsr ?_
    refine wp rfl hC (oc_move hC (.tmp rfl) rfl rfl) ?_
    refine wp rfl hC (oc_callG (τ := fun k => bif Nat.beq k 0 then 0 else k) (N' := 1) hC .func (.cons (.tmp rfl) .nil) (.own (by first | rfl | simp) .end) (err_c n b e hb hb8 hl) glob_nil (mr_cons (by first | exact ren_blkI | exact ren_rowI | exact Blk.ren_free (by simp) _ | rfl) rfl mr_nil) (mr_cons (by first | exact ren_blkI | exact ren_rowI | exact Blk.ren_free (by simp) _ | rfl) rfl mr_nil) rfl (rd_cons rfl rd_nil) rfl rfl rfl rfl (by first | exact .inl rfl | exact .inr ⟨by simp, (nv_cons (by first | exact novsL_I _ | simp) nv_nil)⟩) rfl (dst_ok rfl rfl) (fun t => setE_cons _ _ _ _)) ?_
    refine wp rfl hC (oc_assign hC (.tmp rfl) rfl rfl) ?_
    refine WL_nil ?_
    refine W_ret ?_
    exact finK (fun k => k) (.cons (.tmp rfl) .nil) (by first | exact congrArg (AV.i .i64) h3 | exact congrArg (AV.i .i64) (h3.trans h1.symm)) (wr_cons rfl (Blk.ren_free (by simp) _) wr_nil) rfl rfl
set_option maxRecDepth 20000 in
set_option maxHeartbeats 4000000 in
theorem takeerr_c (n : Nat) (b : List Int) (e : Int) (hb : b.length = n) (hb8 : B8 b) (hl : n ≤ 1099511627776) (k : Int) (he : e ≠ 0) : FnC Tryd.prog 40 [] [.p 0 0, .i .i64 k] [(0, .blk 73 [.vs n (I .u8 b), .i .i64 e])] [(0, .blk 73 [.vs n (I .u8 b), .i .i64 e])] (.nils) := by
  refine FnC.introR (N0 := 1) (T := 35) (E := [(0, .p 0 0), (1, .i .i64 k)]) Tryd.func40 rfl (by decide) mix rfl rfl rfl (by simp) rfl ⟨(by first | exact inSL_I _ | trivial | simp), (by first | exact inSL_I _ | trivial | simp), trivial⟩ (by intro k b hm; simp only [List.mem_cons, Prod.mk.injEq, List.not_mem_nil, or_false] at hm; rcases hm with ⟨rfl, rfl⟩ <;> exact ⟨by decide, by first | exact inSL_I _ | simp⟩) (by
        intro S ha hr hw
        have s0 : S 0 := (hr 0 _ List.mem_cons_self).1
        refine ⟨by first | exact inSL_I _ | simp [s0], fun k b hm => ?_⟩
        simp only [List.mem_cons, Prod.mk.injEq, List.not_mem_nil, or_false] at hm
        rcases hm with ⟨rfl, rfl⟩
        · exact ⟨s0, by first | exact inSL_I _ | simp [s0]⟩) (fun F n0 X w ρ hC hro => ?_)
  refine wsr ?_
  refine wp rfl hC (oc_assign hC .cnils rfl rfl) ?_
  refine WL_nil ?_
  refine W_seq ?_
  refine wsr ?_
  refine wp rfl hC (oc_move hC (.tmp rfl) rfl rfl) ?_
  refine wp rfl hC (oc_callG (τ := fun k => bif Nat.beq k 0 then 0 else k) (N' := 1) hC .func (.cons (.tmp rfl) .nil) (.own (by first | rfl | simp) .end) (err_c n b e hb hb8 hl) glob_nil (mr_cons (by first | exact ren_blkI | exact ren_rowI | exact Blk.ren_free (by simp) _ | rfl) rfl mr_nil) (mr_cons (by first | exact ren_blkI | exact ren_rowI | exact Blk.ren_free (by simp) _ | rfl) rfl mr_nil) rfl (rd_cons rfl rd_nil) rfl rfl rfl rfl (by first | exact .inl rfl | exact .inr ⟨by simp, (nv_cons (by first | exact novsL_I _ | simp) nv_nil)⟩) rfl (dst_ok rfl rfl) (fun t => setE_cons _ _ _ _)) ?_
  refine wp rfl hC (ox_cmp hC rfl (.tmp rfl) .cint (r := true) (by simp only [cmpI]; exact decide_eq_true (by omega)) rfl rfl) ?_
  refine WL_nil ?_
  refine W_cond rfl (by decide) (fun _ => ?_) (fun hc => by cases hc)
  refine wsr ?_
  refine wp rfl hC (oc_assign hC .cnils rfl rfl) ?_
  refine WL_nil ?_
  refine W_ret ?_
  exact finK (fun k => k) (.cons (.tmp rfl) .nil) rfl (wr_cons rfl (Blk.ren_free (by simp) _) wr_nil) rfl rfl
set_option maxRecDepth 20000 in
set_option maxHeartbeats 4000000 in
theorem takeshort_c (n : Nat) (b : List Int) (e : Int) (hb : b.length = n) (hb8 : B8 b) (hl : n ≤ 1099511627776) (k : Nat) (he : e = 0) (hk : n < k) : FnC Tryd.prog 40 [] [.p 0 0, .i .i64 k] [(0, .blk 73 [.vs n (I .u8 b), .i .i64 e])] [(0, .blk 73 [.vs n (I .u8 b), .i .i64 2])] (.nils) := by
  refine FnC.introR (N0 := 1) (T := 35) (E := [(0, .p 0 0), (1, .i .i64 k)]) Tryd.func40 rfl (by decide) mix rfl rfl rfl (by simp) rfl ⟨(by first | exact inSL_I _ | trivial | simp), (by first | exact inSL_I _ | trivial | simp), trivial⟩ (by intro k b hm; simp only [List.mem_cons, Prod.mk.injEq, List.not_mem_nil, or_false] at hm; rcases hm with ⟨rfl, rfl⟩ <;> exact ⟨by decide, by first | exact inSL_I _ | simp⟩) (by
        intro S ha hr hw
        have s0 : S 0 := (hr 0 _ List.mem_cons_self).1
        refine ⟨by first | exact inSL_I _ | simp [s0], fun k b hm => ?_⟩
        simp only [List.mem_cons, Prod.mk.injEq, List.not_mem_nil, or_false] at hm
        rcases hm with ⟨rfl, rfl⟩
        · exact ⟨s0, by first | exact inSL_I _ | simp [s0]⟩) (fun F n0 X w ρ hC hro => ?_)
  refine wsr ?_
  refine wp rfl hC (oc_assign hC .cnils rfl rfl) ?_
  refine WL_nil ?_
  refine W_seq ?_
  refine wsr ?_
  refine wp rfl hC (oc_move hC (.tmp rfl) rfl rfl) ?_
  refine wp rfl hC (oc_callG (τ := fun k => bif Nat.beq k 0 then 0 else k) (N' := 1) hC .func (.cons (.tmp rfl) .nil) (.own (by first | rfl | simp) .end) (err_c n b e hb hb8 hl) glob_nil (mr_cons (by first | exact ren_blkI | exact ren_rowI | exact Blk.ren_free (by simp) _ | rfl) rfl mr_nil) (mr_cons (by first | exact ren_blkI | exact ren_rowI | exact Blk.ren_free (by simp) _ | rfl) rfl mr_nil) rfl (rd_cons rfl rd_nil) rfl rfl rfl rfl (by first | exact .inl rfl | exact .inr ⟨by simp, (nv_cons (by first | exact novsL_I _ | simp) nv_nil)⟩) rfl (dst_ok rfl rfl) (fun t => setE_cons _ _ _ _)) ?_
  refine wp rfl hC (ox_cmp hC rfl (.tmp rfl) .cint (r := false) (by simp only [cmpI]; exact decide_eq_false (by omega)) rfl rfl) ?_
  refine WL_nil ?_
  refine W_cond rfl (by decide) (fun hc => by cases hc) (fun _ => ?_)
  refine W_skip ?_
  refine W_seq ?_
  refine wsr ?_
  refine wp rfl hC (oc_move hC (.tmp rfl) rfl rfl) ?_
  refine wp rfl hC (oc_move hC (.tmp rfl) rfl rfl) ?_
  refine wp rfl hC (oc_nilCheck hC (.tmp rfl) rfl rfl) ?_
  refine wp rfl hC (oc_field hC (.tmp rfl) fld_73_0 (by decide) (by first | exact .p (Nat.zero_add _) | exact .p rfl | exact .rp (by decide)) rfl rfl) ?_
  refine wp rfl hC (oc_load hC (.tmp rfl) (by first | exact .p rfl | exact .rp) shp_22 (by first | exact unit_one rfl | exact unit_I (by first | omega | (simp <;> fail) | (simp; omega)) | exact unit_c rfl (by decide) | exact unit_c rfl (by simp)) rfl rfl) ?_
  refine wp rfl hC (ox_len hC (.tmp rfl) (by first | exact .row rfl | exact .vs | exact .sl rfl | exact .nils) Tryd.underlying22 rfl rfl rfl) ?_
  refine wp rfl hC (ox_cmp hC rfl (.tmp rfl) (.tmp rfl) (r := true) (by simp only [cmpI]; exact decide_eq_true (by omega)) rfl rfl) ?_
  refine WL_nil ?_
  refine W_cond rfl (by decide) (fun _ => ?_) (fun hc => by cases hc)
  refine wsr ?_
  refine wp rfl hC (oc_move hC (.tmp rfl) rfl rfl) ?_
  refine wp rfl hC (oc_callG (τ := fun k => bif Nat.beq k 0 then 0 else k) (N' := 1) hC .func (.cons (.tmp rfl) (.cons .cint .nil)) (.own (by first | rfl | simp) (.v1 (.free (by first | exact inSL_I _ | simp)) .end)) (fail_c n b e hb hb8 hl 2 2 (.inl ⟨he, rfl⟩)) glob_nil (mr_cons (by first | exact ren_blkI | exact ren_rowI | exact Blk.ren_free (by simp) _ | rfl) rfl mr_nil) (mr_cons (by first | exact ren_blkI | exact ren_rowI | exact Blk.ren_free (by simp) _ | rfl) rfl mr_nil) rfl (rd_cons rfl rd_nil) rfl rfl rfl rfl (by first | exact .inl rfl | exact .inr ⟨by simp, (nv_cons (by first | exact novsL_I _ | simp) nv_nil)⟩) rfl (dst_ok rfl rfl) (fun t => setE_cons _ _ _ _)) ?_
  refine WL_nil ?_
  refine wsr ?_
  refine wp rfl hC (oc_assign hC .cnils rfl rfl) ?_
  refine WL_nil ?_
  refine W_ret ?_
  exact finK (fun k => k) (.cons (.tmp rfl) .nil) rfl (wr_cons rfl (Blk.ren_free (by simp) _) wr_nil) rfl rfl
set_option maxRecDepth 20000 in
set_option maxHeartbeats 4000000 in
theorem take_c (n : Nat) (b : List Int) (e : Int) (hb : b.length = n) (hb8 : B8 b) (hl : n ≤ 1099511627776) (k : Nat) (he : e = 0) (hk : k ≤ n) : FnC Tryd.prog 40 [] [.p 0 0, .i .i64 k] [(0, .blk 73 [.vs n (I .u8 b), .i .i64 e])] [(0, .blk 73 [.vs (n - k) (I .u8 (b.drop k)), .i .i64 e])] (.vs k (I .u8 (b.take k))) := by
  refine FnC.introR (N0 := 1) (T := 35) (E := [(0, .p 0 0), (1, .i .i64 k)]) Tryd.func40 rfl (by decide) mix rfl rfl rfl (by simp) rfl ⟨(by first | exact inSL_I _ | trivial | simp), (by first | exact inSL_I _ | trivial | simp), trivial⟩ (by intro k b hm; simp only [List.mem_cons, Prod.mk.injEq, List.not_mem_nil, or_false] at hm; rcases hm with ⟨rfl, rfl⟩ <;> exact ⟨by decide, by first | exact inSL_I _ | simp⟩) (by
        intro S ha hr hw
        have s0 : S 0 := (hr 0 _ List.mem_cons_self).1
        refine ⟨by first | exact inSL_I _ | simp [s0], fun k b hm => ?_⟩
        simp only [List.mem_cons, Prod.mk.injEq, List.not_mem_nil, or_false] at hm
        rcases hm with ⟨rfl, rfl⟩
        · exact ⟨s0, by first | exact inSL_I _ | simp [s0]⟩) (fun F n0 X w ρ hC hro => ?_)
  refine wsr ?_
  refine wp rfl hC (oc_assign hC .cnils rfl rfl) ?_
  refine WL_nil ?_
  refine W_seq ?_
  refine wsr ?_
  refine wp rfl hC (oc_move hC (.tmp rfl) rfl rfl) ?_
  refine wp rfl hC (oc_callG (τ := fun k => bif Nat.beq k 0 then 0 else k) (N' := 1) hC .func (.cons (.tmp rfl) .nil) (.own (by first | rfl | simp) .end) (err_c n b e hb hb8 hl) glob_nil (mr_cons (by first | exact ren_blkI | exact ren_rowI | exact Blk.ren_free (by simp) _ | rfl) rfl mr_nil) (mr_cons (by first | exact ren_blkI | exact ren_rowI | exact Blk.ren_free (by simp) _ | rfl) rfl mr_nil) rfl (rd_cons rfl rd_nil) rfl rfl rfl rfl (by first | exact .inl rfl | exact .inr ⟨by simp, (nv_cons (by first | exact novsL_I _ | simp) nv_nil)⟩) rfl (dst_ok rfl rfl) (fun t => setE_cons _ _ _ _)) ?_
  refine wp rfl hC (ox_cmp hC rfl (.tmp rfl) .cint (r := false) (by simp only [cmpI]; exact decide_eq_false (by omega)) rfl rfl) ?_
  refine WL_nil ?_
  refine W_cond rfl (by decide) (fun hc => by cases hc) (fun _ => ?_)
  refine W_skip ?_
  refine W_seq ?_
  refine wsr ?_
  refine wp rfl hC (oc_move hC (.tmp rfl) rfl rfl) ?_
  refine wp rfl hC (oc_move hC (.tmp rfl) rfl rfl) ?_
  refine wp rfl hC (oc_nilCheck hC (.tmp rfl) rfl rfl) ?_
  refine wp rfl hC (oc_field hC (.tmp rfl) fld_73_0 (by decide) (by first | exact .p (Nat.zero_add _) | exact .p rfl | exact .rp (by decide)) rfl rfl) ?_
  refine wp rfl hC (oc_load hC (.tmp rfl) (by first | exact .p rfl | exact .rp) shp_22 (by first | exact unit_one rfl | exact unit_I (by first | omega | (simp <;> fail) | (simp; omega)) | exact unit_c rfl (by decide) | exact unit_c rfl (by simp)) rfl rfl) ?_
  refine wp rfl hC (ox_len hC (.tmp rfl) (by first | exact .row rfl | exact .vs | exact .sl rfl | exact .nils) Tryd.underlying22 rfl rfl rfl) ?_
  refine wp rfl hC (ox_cmp hC rfl (.tmp rfl) (.tmp rfl) (r := false) (by simp only [cmpI]; exact decide_eq_false (by omega)) rfl rfl) ?_
  refine WL_nil ?_
  refine W_cond rfl (by decide) (fun hc => by cases hc) (fun _ => ?_)
  refine W_skip ?_
  refine wsr ?_
  refine wp rfl hC (oc_move hC (.tmp rfl) rfl rfl) ?_
  refine wp rfl hC (oc_nilCheck hC (.tmp rfl) rfl rfl) ?_
  refine wp rfl hC (oc_field hC (.tmp rfl) fld_73_0 (by decide) (by first | exact .p (Nat.zero_add _) | exact .p rfl | exact .rp (by decide)) rfl rfl) ?_
  refine wp rfl hC (oc_load hC (.tmp rfl) (by first | exact .p rfl | exact .rp) shp_22 (by first | exact unit_one rfl | exact unit_I (by first | omega | (simp <;> fail) | (simp; omega)) | exact unit_c rfl (by decide) | exact unit_c rfl (by simp)) rfl rfl) ?_
  refine wp rfl hC (oc_move hC (.tmp rfl) rfl rfl) ?_
  refine wp rfl hC (oc_move hC (.tmp rfl) rfl rfl) ?_
  refine wp rfl hC (oc_cutS3 (u' := .vs k (I .u8 (b.take k))) (h := k) (m := k) hC (.tmp rfl) .no (.tmp rfl) (.tmp rfl) idx_22 (by first | exact .row rfl (Nat.mul_one _) | exact .sl rfl | exact .vs (by first | omega | (simp <;> fail) | (simp; omega)) | exact .nils) (by first | omega | (simp <;> fail) | (simp; omega)) (by first | omega | (simp <;> fail) | (simp; omega)) (by first | omega | (simp <;> fail) | (simp; omega)) (by rw [cut_vsI, List.drop_zero]; rfl) rfl rfl) ?_
  refine wp rfl hC (oc_assign hC (.tmp rfl) rfl rfl) ?_
  refine WL_nil ?_
  refine wsr ?_
  refine wp rfl hC (oc_move hC (.tmp rfl) rfl rfl) ?_
  refine wp rfl hC (oc_move hC (.tmp rfl) rfl rfl) ?_
  refine wp rfl hC (oc_nilCheck hC (.tmp rfl) rfl rfl) ?_
  refine wp rfl hC (oc_field hC (.tmp rfl) fld_73_0 (by decide) (by first | exact .p (Nat.zero_add _) | exact .p rfl | exact .rp (by decide)) rfl rfl) ?_
  refine wp rfl hC (oc_load hC (.tmp rfl) (by first | exact .p rfl | exact .rp) shp_22 (by first | exact unit_one rfl | exact unit_I (by first | omega | (simp <;> fail) | (simp; omega)) | exact unit_c rfl (by decide) | exact unit_c rfl (by simp)) rfl rfl) ?_
  refine wp rfl hC (oc_move hC (.tmp rfl) rfl rfl) ?_
  refine wp rfl hC (ox_cutS (u' := .vs (n - k) (I .u8 (b.drop k))) hC (.tmp rfl) (.yes (n := k) (.tmp rfl) (by first | rfl | omega | (simp; omega))) .no idx_22 (by first | exact .row rfl (Nat.mul_one _) | exact .sl rfl | exact .vs (by first | omega | (simp <;> fail) | (simp; omega)) | exact .nils) (by first | omega | (simp <;> fail) | (simp; omega)) (by first | omega | (simp <;> fail) | (simp; omega)) (by rw [cut_vsI]; congr 2; exact List.take_of_length_le (by simp; omega)) rfl rfl) ?_
  refine wp rfl hC (oc_nilCheck hC (.tmp rfl) rfl rfl) ?_
  refine wp rfl hC (oc_field hC (.tmp rfl) fld_73_0 (by decide) (by first | exact .p (Nat.zero_add _) | exact .p rfl | exact .rp (by decide)) rfl rfl) ?_
  refine wp rfl hC (ox_store hC (.tmp rfl) (.tmp rfl) rfl shp_22 (by first | rfl | exact flat_agI) (by first | exact cells1 rfl | (rw [cells_ag, length_I]; omega) | rfl | (simp <;> fail) | (simp; omega)) (by first | exact Nat.le_refl _ | exact Nat.le_of_ble_eq_true rfl | decide | (simp <;> fail) | (simp; omega)) (by first | exact put_one rfl | exact put_blkI (by first | omega | (simp <;> fail) | (simp; omega)) | exact put_rowI (by first | omega | (simp <;> fail) | (simp; omega)) | rfl) (by first | exact .here | exact .s1 rfl | exact .s2 rfl rfl | exact .s3 rfl rfl rfl | exact .s4 rfl rfl rfl rfl | exact .s5 rfl rfl rfl rfl rfl | exact .s6 rfl rfl rfl rfl rfl rfl | exact .s7 rfl rfl rfl rfl rfl rfl rfl | exact .s8 rfl rfl rfl rfl rfl rfl rfl rfl) rfl) ?_
  refine WL_nil ?_
  refine wsr ?_
  refine wp rfl hC (oc_move hC (.tmp rfl) rfl rfl) ?_
  refine wp rfl hC (oc_assign hC (.tmp rfl) rfl rfl) ?_
  refine WL_nil ?_
  refine W_ret ?_
  exact finK (fun k => k) (.cons (.tmp rfl) .nil) ren_vsI (wr_cons rfl (Blk.ren_free (by simp) _) wr_nil) rfl rfl
set_option maxRecDepth 20000 in
set_option maxHeartbeats 4000000 in
theorem low_c (c : Int) : FnC Tryd.prog 44 [] [.i .u8 c] [] [] (.b (decide (c < 128))) := by
  refine FnC.introR (N0 := 0) (T := 5) (E := [(0, .i .u8 c)]) Tryd.func44 rfl (by decide) mix rfl rfl rfl (by simp) rfl ⟨(by first | exact inSL_I _ | trivial | simp), trivial⟩ (by simp) (by intro S _ _ h; simp) (fun F n0 X w ρ hC hro => ?_)
  refine wsr ?_
  refine wp rfl hC (oc_assign hC .cbool rfl rfl) ?_
  refine WL_nil ?_
  refine wsr ?_
  refine wp rfl hC (oc_move hC (.tmp rfl) rfl rfl) ?_
  refine wp rfl hC (ox_cmp hC rfl (.tmp rfl) .cint rfl rfl rfl) ?_
  refine wp rfl hC (oc_assign hC (.tmp rfl) rfl rfl) ?_
  refine WL_nil ?_
  refine W_ret ?_
  exact fin0 (.cons (.tmp rfl) .nil) rfl (by first | exact inSL_I _ | simp)
set_option maxRecDepth 20000 in
set_option maxHeartbeats 4000000 in
theorem index_c (n : Nat) (b : List Int) (hb : b.length = n) (hl : n ≤ 1099511627776) : FnC Tryd.prog 43 [] [.vs n (I .u8 b), .f 44 []] [] [] (.i .i64 (lastOf b)) := by
  have hix := ix7_le b
  refine FnC.introR (N0 := 0) (T := 19) (E := [(0, .vs n (I .u8 b)), (1, .f 44 [])]) Tryd.func43 rfl (by decide) mix rfl rfl rfl (by simp) rfl ⟨(by first | exact inSL_I _ | trivial | simp), (by first | exact inSL_I _ | trivial | simp), trivial⟩ (by simp) (by intro S _ _ h; simp) (fun F n0 X w ρ hC hro => ?_)
  refine wsr ?_
  refine wp rfl hC (oc_assign hC .cint rfl rfl) ?_
  refine WL_nil ?_
  refine W_seq ?_
  refine wsr ?_
  refine wp rfl hC (oc_move hC (.tmp rfl) rfl rfl) ?_
  refine wp rfl hC (ox_len hC (.tmp rfl) (by first | exact .row rfl | exact .vs | exact .sl rfl | exact .nils) Tryd.underlying22 rfl rfl rfl) ?_
  refine wp rfl hC (oc_move hC .cint rfl rfl) ?_
  refine WL_nil ?_
  refine W_blk ?_
  refine W_loopW (fun (ζ : Nat) => ⟨0, [(0, .vs n (I .u8 b)), (1, .f 44 []), (7, .i .i64 n), (8, .i .i64 ζ)], []⟩) (fun ζ => ζ ≤ ix7 b) (fun ζ => n - ζ) (0) (Nat.zero_le _) (weak (fun k => k) (.cons rfl (by first | exact ren_agI | exact ren_vsI | exact ren_free _ _ (by first | exact inSL_I _ | simp)) (by first | exact inSL_I _ | simp) (.cons rfl (by first | exact ren_agI | exact ren_vsI | exact ren_free _ _ (by first | exact inSL_I _ | simp)) (by first | exact inSL_I _ | simp) (.cons rfl (by first | rfl | exact congrArg (AV.i _) (by omega) | exact congrArg (AV.i _) (by simp; omega)) trivial (.cons rfl rfl trivial .nil)))) .nil rfl rfl rfl) ?_
  intro i hR
  replace hR : i ≤ ix7 b := hR
  first | show W _ _ _ ⟨0, [(0, .vs n (I .u8 b)), (1, .f 44 []), (7, .i .i64 n), (8, .i .i64 i)], []⟩ | skip
  refine wsr ?_
  refine wp rfl hC (ox_cmp hC rfl (.tmp rfl) (.tmp rfl) rfl rfl rfl) ?_
  refine WL_nil ?_
  refine W_seq ?_
  refine W_cond rfl (by decide) (fun hc => ?_) (fun hc => ?_)
  ·
    replace hc := lss_t hc
    have hin : i < n := by omega
    refine W_skip ?_
    refine W_seq ?_
    refine W_blk ?_
    refine wsr ?_
    refine wp rfl hC (oc_move hC (.tmp rfl) rfl rfl) ?_
    refine wp rfl hC (oc_assign hC (.tmp rfl) rfl rfl) ?_
    refine WL_nil ?_
    refine wsr ?_
    refine wp rfl hC (oc_move hC (.tmp rfl) rfl rfl) ?_
    refine wp rfl hC (oc_move hC (.tmp rfl) rfl rfl) ?_
    refine wp rfl hC (oc_move hC (.tmp rfl) rfl rfl) ?_
    refine wp rfl hC (ox_indexS hC  (.tmp rfl) (.tmp rfl) idx_22 (by first | rfl | exact toNat_up (by omega)) (by first | exact Nat.mul_one _ | rfl) (by first | exact .row rfl | exact .sl (Nat.zero_add _) | exact .sl rfl | exact .vs (by first | omega | (simp <;> fail) | (simp; omega))) (by first | omega | (simp <;> fail) | (simp; omega)) rfl rfl) ?_
    refine wp rfl hC (oc_load hC (.tmp rfl) (by first | exact .p rfl | exact .rp) shp_5 (by exact (unit_I (by first | omega | (simp <;> fail) | (simp; omega)))) rfl rfl) ?_
    refine wp rfl hC (oc_callG (τ := fun k => k) (N' := 0) hC (.val rfl) (.cons (.tmp rfl) .nil) (.v1 (.free (by first | exact inSL_I _ | simp)) .end) (low_c _) glob_nil mr_nil mr_nil (by first | rfl | exact ren_agI | exact ren_free _ _ (by first | exact inSL_I _ | simp)) rd_nil rfl rfl rfl rfl (by first | exact .inl rfl | exact .inr ⟨by simp, nv_nil⟩) rfl (dst_ok rfl rfl) (fun t => setE_cons _ _ _ _)) ?_
    refine WL_nil ?_
    refine W_cond rfl (by decide) (fun hc => ?_) (fun hc => ?_)
    ·
      have hl2 : lastOf b = i := by
        have := (ix7_spec b i hR (by omega)).1 (of_decide_eq_true hc)
        unfold lastOf; rw [if_pos (by omega), this]
      refine wsr ?_
      refine wp rfl hC (oc_move hC (.tmp rfl) rfl rfl) ?_
      refine wp rfl hC (oc_assign hC (.tmp rfl) rfl rfl) ?_
      refine WL_nil ?_
      refine W_ret ?_
      exact fin0 (.cons (.tmp rfl) .nil) (congrArg (AV.i .i64) hl2.symm) trivial
    ·
      
      refine W_skip ?_
      refine W_region ?_
      refine wp rfl hC (oc_bin hC rfl (.tmp rfl) .cint (by first | exact i64_add (by omega) | rfl) rfl rfl) ?_
      refine wp rfl hC (oc_move hC (.tmp rfl) rfl rfl) ?_
      refine WL_nil ?_
      exact ⟨(i + 1), ((ix7_spec b i hR (by omega)).2 (of_decide_eq_false hc)), (weak (fun k => k) (.cons rfl (by first | exact ren_agI | exact ren_vsI | exact ren_free _ _ (by first | exact inSL_I _ | simp)) (by first | exact inSL_I _ | simp) (.cons rfl (by first | exact ren_agI | exact ren_vsI | exact ren_free _ _ (by first | exact inSL_I _ | simp)) (by first | exact inSL_I _ | simp) (.cons rfl (by first | rfl | exact congrArg (AV.i _) (by omega) | exact congrArg (AV.i _) (by simp; omega)) trivial (.cons rfl (by first | rfl | exact congrArg (AV.i _) (by omega) | exact congrArg (AV.i _) (by simp; omega)) trivial .nil)))) .nil rfl rfl rfl), (by omega)⟩
  ·
    replace hc := lss_f hc
    have hl2 : lastOf b = -1 := by unfold lastOf; rw [if_neg (by omega)]
    refine W_exit ?_
    refine wsr ?_
    refine wp rfl hC (oc_assign hC .cint rfl rfl) ?_
    refine WL_nil ?_
    refine W_ret ?_
    exact fin0 (.cons (.tmp rfl) .nil) (congrArg (AV.i .i64) hl2.symm) trivial
set_option maxRecDepth 20000 in
set_option maxHeartbeats 4000000 in
theorem backward_c (n : Nat) (x : List Int) : FnC Tryd.prog 42 [] [.vs n (I .u8 x)] [] [(0, .blk 22 [.vs n (I .u8 x)])] (.f 45 [.p 0 0]) := by
  refine FnC.introR (N0 := 0) (T := 4) (E := [(0, .vs n (I .u8 x))]) Tryd.func42 rfl (by decide) mix rfl rfl rfl (by simp) rfl ⟨(by first | exact inSL_I _ | trivial | simp), trivial⟩ (by simp) (by
        intro S ha hr hw
        have s0 : S 0 := hw 0 (by first | (simp; done) | (show some _ ≠ none; simp)) (by first | rfl | simp)
        refine ⟨by first | exact inSL_I _ | simp [s0], fun k b hm => ?_⟩
        simp only [List.mem_cons, Prod.mk.injEq, List.not_mem_nil, or_false] at hm
        rcases hm with ⟨rfl, rfl⟩
        · exact ⟨s0, by first | exact inSL_I _ | simp [s0]⟩) (fun F n0 X w ρ hC hro => ?_)
  refine wsr ?_
  refine wp rfl hC (ox_box hC (.tmp rfl) (by first | rfl | exact flat_agI) (by first | exact cells_ag | rfl) rfl rfl) ?_
  refine wp rfl hC (oc_assign hC .cnilf rfl rfl) ?_
  refine WL_nil ?_
  refine wsr ?_
  refine wp rfl hC (oc_func hC (.cons (.tmp rfl) .nil) rfl rfl) ?_
  refine wp rfl hC (oc_assign hC (.tmp rfl) rfl rfl) ?_
  refine WL_nil ?_
  refine W_ret ?_
  exact finK (fun k => k) (.cons (.tmp rfl) .nil) rfl (wr_cons rfl (Blk.ren_free (by simp) _) wr_nil) rfl rfl
set_option maxRecDepth 20000 in
set_option maxHeartbeats 4000000 in
theorem numerr_c (n : Nat) (b : List Int) (e : Int) (hb : b.length = n) (hb8 : B8 b) (hl : n ≤ 1099511627776) (most : Int) (he : e ≠ 0) : FnC Tryd.prog 35 [] [.p 0 0, .i .i64 most] [(0, .blk 73 [.vs n (I .u8 b), .i .i64 e])] [(0, .blk 73 [.vs n (I .u8 b), .i .i64 e])] (.i .i64 0) := by
  refine FnC.introR (N0 := 1) (T := 75) (E := [(0, .p 0 0), (1, .i .i64 most)]) Tryd.func35 rfl (by decide) mix rfl rfl rfl (by simp) rfl ⟨(by first | exact inSL_I _ | trivial | simp), (by first | exact inSL_I _ | trivial | simp), trivial⟩ (by intro k b hm; simp only [List.mem_cons, Prod.mk.injEq, List.not_mem_nil, or_false] at hm; rcases hm with ⟨rfl, rfl⟩ <;> exact ⟨by decide, by first | exact inSL_I _ | simp⟩) (by
        intro S ha hr hw
        have s0 : S 0 := (hr 0 _ List.mem_cons_self).1
        refine ⟨by first | exact inSL_I _ | simp [s0], fun k b hm => ?_⟩
        simp only [List.mem_cons, Prod.mk.injEq, List.not_mem_nil, or_false] at hm
        rcases hm with ⟨rfl, rfl⟩
        · exact ⟨s0, by first | exact inSL_I _ | simp [s0]⟩) (fun F n0 X w ρ hC hro => ?_)
  refine wsr ?_
  refine wp rfl hC (oc_assign hC .cint rfl rfl) ?_
  refine WL_nil ?_
  refine W_seq ?_
  refine wsr ?_
  refine wp rfl hC (oc_move hC (.tmp rfl) rfl rfl) ?_
  refine wp rfl hC (oc_callG (τ := fun k => bif Nat.beq k 0 then 0 else k) (N' := 1) hC .func (.cons (.tmp rfl) .nil) (.own (by first | rfl | simp) .end) (err_c n b e hb hb8 hl) glob_nil (mr_cons (by first | exact ren_blkI | exact ren_rowI | exact Blk.ren_free (by simp) _ | rfl) rfl mr_nil) (mr_cons (by first | exact ren_blkI | exact ren_rowI | exact Blk.ren_free (by simp) _ | rfl) rfl mr_nil) rfl (rd_cons rfl rd_nil) rfl rfl rfl rfl (by first | exact .inl rfl | exact .inr ⟨by simp, (nv_cons (by first | exact novsL_I _ | simp) nv_nil)⟩) rfl (dst_ok rfl rfl) (fun t => setE_cons _ _ _ _)) ?_
  refine wp rfl hC (ox_cmp hC rfl (.tmp rfl) .cint (r := true) (by simp only [cmpI]; exact decide_eq_true (by omega)) rfl rfl) ?_
  refine WL_nil ?_
  refine W_cond rfl (by decide) (fun _ => ?_) (fun hc => by cases hc)
  refine wsr ?_
  refine wp rfl hC (oc_assign hC .cint rfl rfl) ?_
  refine WL_nil ?_
  refine W_ret ?_
  exact finK (fun k => k) (.cons (.tmp rfl) .nil) rfl (wr_cons rfl (Blk.ren_free (by simp) _) wr_nil) rfl rfl
set_option maxRecDepth 20000 in
set_option maxHeartbeats 4000000 in
theorem numlongA_c (n : Nat) (b : List Int) (e : Int) (hb : b.length = n) (hb8 : B8 b) (hl : n ≤ 1099511627776) (most : Int) (he : e = 0) (h : 6 ≤ ix7 b) (h1 : ix7 b < n) : FnC Tryd.prog 35 [] [.p 0 0, .i .i64 most] [(0, .blk 73 [.vs n (I .u8 b), .i .i64 e])] [(0, .blk 73 [.vs n (I .u8 b), .i .i64 4])] (.i .i64 0) := by
  have hix := ix7_le b
  have hlo : lastOf b = (ix7 b : Int) := by unfold lastOf; rw [if_pos (by omega)]
  refine FnC.introR (N0 := 1) (T := 75) (E := [(0, .p 0 0), (1, .i .i64 most)]) Tryd.func35 rfl (by decide) mix rfl rfl rfl (by simp) rfl ⟨(by first | exact inSL_I _ | trivial | simp), (by first | exact inSL_I _ | trivial | simp), trivial⟩ (by intro k b hm; simp only [List.mem_cons, Prod.mk.injEq, List.not_mem_nil, or_false] at hm; rcases hm with ⟨rfl, rfl⟩ <;> exact ⟨by decide, by first | exact inSL_I _ | simp⟩) (by
        intro S ha hr hw
        have s0 : S 0 := (hr 0 _ List.mem_cons_self).1
        refine ⟨by first | exact inSL_I _ | simp [s0], fun k b hm => ?_⟩
        simp only [List.mem_cons, Prod.mk.injEq, List.not_mem_nil, or_false] at hm
        rcases hm with ⟨rfl, rfl⟩
        · exact ⟨s0, by first | exact inSL_I _ | simp [s0]⟩) (fun F n0 X w ρ hC hro => ?_)
  refine wsr ?_
  refine wp rfl hC (oc_assign hC .cint rfl rfl) ?_
  refine WL_nil ?_
  refine W_seq ?_
  refine wsr ?_
  refine wp rfl hC (oc_move hC (.tmp rfl) rfl rfl) ?_
  refine wp rfl hC (oc_callG (τ := fun k => bif Nat.beq k 0 then 0 else k) (N' := 1) hC .func (.cons (.tmp rfl) .nil) (.own (by first | rfl | simp) .end) (err_c n b e hb hb8 hl) glob_nil (mr_cons (by first | exact ren_blkI | exact ren_rowI | exact Blk.ren_free (by simp) _ | rfl) rfl mr_nil) (mr_cons (by first | exact ren_blkI | exact ren_rowI | exact Blk.ren_free (by simp) _ | rfl) rfl mr_nil) rfl (rd_cons rfl rd_nil) rfl rfl rfl rfl (by first | exact .inl rfl | exact .inr ⟨by simp, (nv_cons (by first | exact novsL_I _ | simp) nv_nil)⟩) rfl (dst_ok rfl rfl) (fun t => setE_cons _ _ _ _)) ?_
  refine wp rfl hC (ox_cmp hC rfl (.tmp rfl) .cint (r := false) (by simp only [cmpI]; exact decide_eq_false (by omega)) rfl rfl) ?_
  refine WL_nil ?_
  refine W_cond rfl (by decide) (fun hc => by cases hc) (fun _ => ?_)
  refine W_skip ?_
  refine wsr ?_
  refine wp rfl hC (oc_move hC (.tmp rfl) rfl rfl) ?_
  refine wp rfl hC (oc_nilCheck hC (.tmp rfl) rfl rfl) ?_
  refine wp rfl hC (oc_field hC (.tmp rfl) fld_73_0 (by decide) (by first | exact .p (Nat.zero_add _) | exact .p rfl | exact .rp (by decide)) rfl rfl) ?_
  refine wp rfl hC (oc_load hC (.tmp rfl) (by first | exact .p rfl | exact .rp) shp_22 (by first | exact unit_one rfl | exact unit_I (by first | omega | (simp <;> fail) | (simp; omega)) | exact unit_c rfl (by decide) | exact unit_c rfl (by simp)) rfl rfl) ?_
  refine wp rfl hC (oc_call hC (.cons (.tmp rfl) (.cons .func .nil)) (.cons1 (by first | exact .free (by first | exact inSL_I _ | simp) | exact .row rfl rfl (by first | exact inSL_I _ | simp) | exact .nils | exact .sl1 rfl (by first | exact cut_I | rfl) (by first | exact inSL_I _ | simp)) (.cons1 (.free (by first | exact inSL_I _ | simp)) (.same (by first | exact inSL_I _ | simp)))) (index_c n b hb hl) glob_nil (by first | exact inSL_I _ | simp) (by first | exact .inl rfl | exact .inr (by simp)) rfl rfl) ?_
  rw [hlo]
  refine wp rfl hC (oc_assign hC (.tmp rfl) rfl rfl) ?_
  refine WL_nil ?_
  refine W_seq ?_
  refine wsr ?_
  refine wp rfl hC (oc_move hC (.tmp rfl) rfl rfl) ?_
  refine wp rfl hC (ox_cmp hC rfl (.tmp rfl) .cint (r := true) (by simp only [cmpI]; exact decide_eq_true (by omega)) rfl rfl) ?_
  refine wp rfl hC (oc_move hC (.tmp rfl) rfl rfl) ?_
  refine WL_cons hC.fn (.no (s1 := ⟨_, (21, .tu []) :: _, _⟩) rfl rfl (by decide) rfl (by decide) (fun t ht => by cases ht; exact ⟨blt_lt rfl, blt_lt rfl⟩) (fun t => setE_cons _ _ _ _) rfl rfl) ?_
  refine WL_cons hC.fn (.no (s1 := ⟨_, (22, .tu []) :: _, _⟩) rfl rfl (by decide) rfl (by decide) (fun t ht => by cases ht; exact ⟨blt_lt rfl, blt_lt rfl⟩) (fun t => setE_cons _ _ _ _) rfl rfl) ?_
  refine WL_cons hC.fn (.no (s1 := ⟨_, (23, .tu []) :: _, _⟩) rfl rfl (by decide) rfl (by decide) (fun t ht => by cases ht; exact ⟨blt_lt rfl, blt_lt rfl⟩) (fun t => setE_cons _ _ _ _) rfl rfl) ?_
  refine WL_cons hC.fn (.noU (s1 := ⟨_, (24, .tu []) :: _, _⟩) rfl rfl (by decide) rfl (fun t ht => by cases ht; exact ⟨blt_lt rfl, blt_lt rfl⟩) (fun t => setE_cons _ _ _ _) rfl rfl) ?_
  refine WL_cons hC.fn (.noU (s1 := ⟨_, (25, .tu []) :: _, _⟩) rfl rfl (by decide) rfl (fun t ht => by cases ht; exact ⟨blt_lt rfl, blt_lt rfl⟩) (fun t => setE_cons _ _ _ _) rfl rfl) ?_
  refine WL_cons hC.fn (.noU (s1 := ⟨_, (26, .tu []) :: _, _⟩) rfl rfl (by decide) rfl (fun t ht => by cases ht; exact ⟨blt_lt rfl, blt_lt rfl⟩) (fun t => setE_cons _ _ _ _) rfl rfl) ?_
  refine WL_cons hC.fn (.noU (s1 := ⟨_, (27, .tu []) :: _, _⟩) rfl rfl (by decide) rfl (fun t ht => by cases ht; exact ⟨blt_lt rfl, blt_lt rfl⟩) (fun t => setE_cons _ _ _ _) rfl rfl) ?_
  refine WL_cons hC.fn (.noU (s1 := ⟨_, (28, .tu []) :: _, _⟩) rfl rfl (by decide) rfl (fun t ht => by cases ht; exact ⟨blt_lt rfl, blt_lt rfl⟩) (fun t => setE_cons _ _ _ _) rfl rfl) ?_
  refine WL_cons hC.fn (.noU (s1 := ⟨_, (29, .tu []) :: _, _⟩) rfl rfl (by decide) rfl (fun t ht => by cases ht; exact ⟨blt_lt rfl, blt_lt rfl⟩) (fun t => setE_cons _ _ _ _) rfl rfl) ?_
  refine WL_cons hC.fn (.no (s1 := ⟨_, (30, .tu []) :: _, _⟩) rfl rfl (by decide) rfl (by decide) (fun t ht => by cases ht; exact ⟨blt_lt rfl, blt_lt rfl⟩) (fun t => setE_cons _ _ _ _) rfl rfl) ?_
  refine wp rfl hC (ox_pick hC (.tmp rfl) .cbool (.tmp rfl) (by first | exact pick_t | exact pick_f | rfl) rfl rfl) ?_
  refine WL_nil ?_
  refine W_cond rfl (by decide) (fun _ => ?_) (fun hc => by cases hc)
  refine wsr ?_
  refine wp rfl hC (oc_move hC (.tmp rfl) rfl rfl) ?_
  refine wp rfl hC (oc_callG (τ := fun k => bif Nat.beq k 0 then 0 else k) (N' := 1) hC .func (.cons (.tmp rfl) (.cons .cint .nil)) (.own (by first | rfl | simp) (.v1 (.free (by first | exact inSL_I _ | simp)) .end)) (fail_c n b e hb hb8 hl 4 4 (.inl ⟨he, rfl⟩)) glob_nil (mr_cons (by first | exact ren_blkI | exact ren_rowI | exact Blk.ren_free (by simp) _ | rfl) rfl mr_nil) (mr_cons (by first | exact ren_blkI | exact ren_rowI | exact Blk.ren_free (by simp) _ | rfl) rfl mr_nil) rfl (rd_cons rfl rd_nil) rfl rfl rfl rfl (by first | exact .inl rfl | exact .inr ⟨by simp, (nv_cons (by first | exact novsL_I _ | simp) nv_nil)⟩) rfl (dst_ok rfl rfl) (fun t => setE_cons _ _ _ _)) ?_
  refine WL_nil ?_
  refine wsr ?_
  refine wp rfl hC (oc_assign hC .cint rfl rfl) ?_
  refine WL_nil ?_
  refine W_ret ?_
  exact finK (fun k => k) (.cons (.tmp rfl) .nil) rfl (wr_cons rfl (Blk.ren_free (by simp) _) wr_nil) rfl rfl
set_option maxRecDepth 20000 in
set_option maxHeartbeats 4000000 in
theorem numlongB_c (n : Nat) (b : List Int) (e : Int) (hb : b.length = n) (hb8 : B8 b) (hl : n ≤ 1099511627776) (most : Int) (he : e = 0) (h : 6 ≤ ix7 b) (h1 : ix7 b = n) : FnC Tryd.prog 35 [] [.p 0 0, .i .i64 most] [(0, .blk 73 [.vs n (I .u8 b), .i .i64 e])] [(0, .blk 73 [.vs n (I .u8 b), .i .i64 4])] (.i .i64 0) := by
  have hix := ix7_le b
  have hlo : lastOf b = -1 := by unfold lastOf; rw [if_neg (by omega)]
  refine FnC.introR (N0 := 1) (T := 75) (E := [(0, .p 0 0), (1, .i .i64 most)]) Tryd.func35 rfl (by decide) mix rfl rfl rfl (by simp) rfl ⟨(by first | exact inSL_I _ | trivial | simp), (by first | exact inSL_I _ | trivial | simp), trivial⟩ (by intro k b hm; simp only [List.mem_cons, Prod.mk.injEq, List.not_mem_nil, or_false] at hm; rcases hm with ⟨rfl, rfl⟩ <;> exact ⟨by decide, by first | exact inSL_I _ | simp⟩) (by
        intro S ha hr hw
        have s0 : S 0 := (hr 0 _ List.mem_cons_self).1
        refine ⟨by first | exact inSL_I _ | simp [s0], fun k b hm => ?_⟩
        simp only [List.mem_cons, Prod.mk.injEq, List.not_mem_nil, or_false] at hm
        rcases hm with ⟨rfl, rfl⟩
        · exact ⟨s0, by first | exact inSL_I _ | simp [s0]⟩) (fun F n0 X w ρ hC hro => ?_)
  refine wsr ?_
  refine wp rfl hC (oc_assign hC .cint rfl rfl) ?_
  refine WL_nil ?_
  refine W_seq ?_
  refine wsr ?_
  refine wp rfl hC (oc_move hC (.tmp rfl) rfl rfl) ?_
  refine wp rfl hC (oc_callG (τ := fun k => bif Nat.beq k 0 then 0 else k) (N' := 1) hC .func (.cons (.tmp rfl) .nil) (.own (by first | rfl | simp) .end) (err_c n b e hb hb8 hl) glob_nil (mr_cons (by first | exact ren_blkI | exact ren_rowI | exact Blk.ren_free (by simp) _ | rfl) rfl mr_nil) (mr_cons (by first | exact ren_blkI | exact ren_rowI | exact Blk.ren_free (by simp) _ | rfl) rfl mr_nil) rfl (rd_cons rfl rd_nil) rfl rfl rfl rfl (by first | exact .inl rfl | exact .inr ⟨by simp, (nv_cons (by first | exact novsL_I _ | simp) nv_nil)⟩) rfl (dst_ok rfl rfl) (fun t => setE_cons _ _ _ _)) ?_
  refine wp rfl hC (ox_cmp hC rfl (.tmp rfl) .cint (r := false) (by simp only [cmpI]; exact decide_eq_false (by omega)) rfl rfl) ?_
  refine WL_nil ?_
  refine W_cond rfl (by decide) (fun hc => by cases hc) (fun _ => ?_)
  refine W_skip ?_
  refine wsr ?_
  refine wp rfl hC (oc_move hC (.tmp rfl) rfl rfl) ?_
  refine wp rfl hC (oc_nilCheck hC (.tmp rfl) rfl rfl) ?_
  refine wp rfl hC (oc_field hC (.tmp rfl) fld_73_0 (by decide) (by first | exact .p (Nat.zero_add _) | exact .p rfl | exact .rp (by decide)) rfl rfl) ?_
  refine wp rfl hC (oc_load hC (.tmp rfl) (by first | exact .p rfl | exact .rp) shp_22 (by first | exact unit_one rfl | exact unit_I (by first | omega | (simp <;> fail) | (simp; omega)) | exact unit_c rfl (by decide) | exact unit_c rfl (by simp)) rfl rfl) ?_
  refine wp rfl hC (oc_call hC (.cons (.tmp rfl) (.cons .func .nil)) (.cons1 (by first | exact .free (by first | exact inSL_I _ | simp) | exact .row rfl rfl (by first | exact inSL_I _ | simp) | exact .nils | exact .sl1 rfl (by first | exact cut_I | rfl) (by first | exact inSL_I _ | simp)) (.cons1 (.free (by first | exact inSL_I _ | simp)) (.same (by first | exact inSL_I _ | simp)))) (index_c n b hb hl) glob_nil (by first | exact inSL_I _ | simp) (by first | exact .inl rfl | exact .inr (by simp)) rfl rfl) ?_
  rw [hlo]
  refine wp rfl hC (oc_assign hC (.tmp rfl) rfl rfl) ?_
  refine WL_nil ?_
  refine W_seq ?_
  refine wsr ?_
  refine wp rfl hC (oc_move hC (.tmp rfl) rfl rfl) ?_
  refine wp rfl hC (ox_cmp hC rfl (.tmp rfl) .cint (r := false) (by simp only [cmpI]; exact decide_eq_false (by omega)) rfl rfl) ?_
  refine wp rfl hC (oc_move hC (.tmp rfl) rfl rfl) ?_
  refine WL_cons hC.fn (.yes rfl rfl (by decide) rfl (oc_move hC (.tmp rfl) rfl rfl)) ?_
  refine WL_cons hC.fn (.yes rfl rfl (by decide) rfl (ox_cmp hC rfl (.tmp rfl) .cint (r := true) (by simp only [cmpI]; exact decide_eq_true (by omega)) rfl rfl)) ?_
  refine WL_cons hC.fn (.yes rfl rfl (by decide) rfl (oc_move hC (.tmp rfl) rfl rfl)) ?_
  refine WL_cons hC.fn (.yes rfl rfl (by decide) rfl (oc_move hC (.tmp rfl) rfl rfl)) ?_
  refine WL_cons hC.fn (.yes rfl rfl (by decide) rfl (oc_nilCheck hC (.tmp rfl) rfl rfl)) ?_
  refine WL_cons hC.fn (.yes rfl rfl (by decide) rfl (oc_field hC (.tmp rfl) fld_73_0 (by decide) (by first | exact .p (Nat.zero_add _) | exact .p rfl | exact .rp (by decide)) rfl rfl)) ?_
  refine WL_cons hC.fn (.yes rfl rfl (by decide) rfl (oc_load hC (.tmp rfl) (by first | exact .p rfl | exact .rp) shp_22 (by first | exact unit_one rfl | exact unit_I (by first | omega | (simp <;> fail) | (simp; omega)) | exact unit_c rfl (by decide) | exact unit_c rfl (by simp)) rfl rfl)) ?_
  refine WL_cons hC.fn (.yes rfl rfl (by decide) rfl (ox_len hC (.tmp rfl) (by first | exact .row rfl | exact .vs | exact .sl rfl | exact .nils) Tryd.underlying22 rfl rfl rfl)) ?_
  refine WL_cons hC.fn (.yes rfl rfl (by decide) rfl (ox_cmp hC rfl (.tmp rfl) .cint (r := true) (by simp only [cmpI]; exact decide_eq_true (by omega)) rfl rfl)) ?_
  refine WL_cons hC.fn (.yes rfl rfl (by decide) rfl (ox_pick hC (.tmp rfl) (.tmp rfl) .cbool (by first | exact pick_t | exact pick_f | rfl) rfl rfl)) ?_
  refine wp rfl hC (ox_pick hC (.tmp rfl) .cbool (.tmp rfl) (by first | exact pick_t | exact pick_f | rfl) rfl rfl) ?_
  refine WL_nil ?_
  refine W_cond rfl (by decide) (fun _ => ?_) (fun hc => by cases hc)
  refine wsr ?_
  refine wp rfl hC (oc_move hC (.tmp rfl) rfl rfl) ?_
  refine wp rfl hC (oc_callG (τ := fun k => bif Nat.beq k 0 then 0 else k) (N' := 1) hC .func (.cons (.tmp rfl) (.cons .cint .nil)) (.own (by first | rfl | simp) (.v1 (.free (by first | exact inSL_I _ | simp)) .end)) (fail_c n b e hb hb8 hl 4 4 (.inl ⟨he, rfl⟩)) glob_nil (mr_cons (by first | exact ren_blkI | exact ren_rowI | exact Blk.ren_free (by simp) _ | rfl) rfl mr_nil) (mr_cons (by first | exact ren_blkI | exact ren_rowI | exact Blk.ren_free (by simp) _ | rfl) rfl mr_nil) rfl (rd_cons rfl rd_nil) rfl rfl rfl rfl (by first | exact .inl rfl | exact .inr ⟨by simp, (nv_cons (by first | exact novsL_I _ | simp) nv_nil)⟩) rfl (dst_ok rfl rfl) (fun t => setE_cons _ _ _ _)) ?_
  refine WL_nil ?_
  refine wsr ?_
  refine wp rfl hC (oc_assign hC .cint rfl rfl) ?_
  refine WL_nil ?_
  refine W_ret ?_
  exact finK (fun k => k) (.cons (.tmp rfl) .nil) rfl (wr_cons rfl (Blk.ren_free (by simp) _) wr_nil) rfl rfl
set_option maxRecDepth 20000 in
set_option maxHeartbeats 4000000 in
theorem numshort_c (n : Nat) (b : List Int) (e : Int) (hb : b.length = n) (hb8 : B8 b) (hl : n ≤ 1099511627776) (most : Int) (he : e = 0) (h : ix7 b = n) (h6 : n < 6) : FnC Tryd.prog 35 [] [.p 0 0, .i .i64 most] [(0, .blk 73 [.vs n (I .u8 b), .i .i64 e])] [(0, .blk 73 [.vs n (I .u8 b), .i .i64 2])] (.i .i64 0) := by
  have hix := ix7_le b
  have hlo : lastOf b = -1 := by unfold lastOf; rw [if_neg (by omega)]
  refine FnC.introR (N0 := 1) (T := 75) (E := [(0, .p 0 0), (1, .i .i64 most)]) Tryd.func35 rfl (by decide) mix rfl rfl rfl (by simp) rfl ⟨(by first | exact inSL_I _ | trivial | simp), (by first | exact inSL_I _ | trivial | simp), trivial⟩ (by intro k b hm; simp only [List.mem_cons, Prod.mk.injEq, List.not_mem_nil, or_false] at hm; rcases hm with ⟨rfl, rfl⟩ <;> exact ⟨by decide, by first | exact inSL_I _ | simp⟩) (by
        intro S ha hr hw
        have s0 : S 0 := (hr 0 _ List.mem_cons_self).1
        refine ⟨by first | exact inSL_I _ | simp [s0], fun k b hm => ?_⟩
        simp only [List.mem_cons, Prod.mk.injEq, List.not_mem_nil, or_false] at hm
        rcases hm with ⟨rfl, rfl⟩
        · exact ⟨s0, by first | exact inSL_I _ | simp [s0]⟩) (fun F n0 X w ρ hC hro => ?_)
  refine wsr ?_
  refine wp rfl hC (oc_assign hC .cint rfl rfl) ?_
  refine WL_nil ?_
  refine W_seq ?_
  refine wsr ?_
  refine wp rfl hC (oc_move hC (.tmp rfl) rfl rfl) ?_
  refine wp rfl hC (oc_callG (τ := fun k => bif Nat.beq k 0 then 0 else k) (N' := 1) hC .func (.cons (.tmp rfl) .nil) (.own (by first | rfl | simp) .end) (err_c n b e hb hb8 hl) glob_nil (mr_cons (by first | exact ren_blkI | exact ren_rowI | exact Blk.ren_free (by simp) _ | rfl) rfl mr_nil) (mr_cons (by first | exact ren_blkI | exact ren_rowI | exact Blk.ren_free (by simp) _ | rfl) rfl mr_nil) rfl (rd_cons rfl rd_nil) rfl rfl rfl rfl (by first | exact .inl rfl | exact .inr ⟨by simp, (nv_cons (by first | exact novsL_I _ | simp) nv_nil)⟩) rfl (dst_ok rfl rfl) (fun t => setE_cons _ _ _ _)) ?_
  refine wp rfl hC (ox_cmp hC rfl (.tmp rfl) .cint (r := false) (by simp only [cmpI]; exact decide_eq_false (by omega)) rfl rfl) ?_
  refine WL_nil ?_
  refine W_cond rfl (by decide) (fun hc => by cases hc) (fun _ => ?_)
  refine W_skip ?_
  refine wsr ?_
  refine wp rfl hC (oc_move hC (.tmp rfl) rfl rfl) ?_
  refine wp rfl hC (oc_nilCheck hC (.tmp rfl) rfl rfl) ?_
  refine wp rfl hC (oc_field hC (.tmp rfl) fld_73_0 (by decide) (by first | exact .p (Nat.zero_add _) | exact .p rfl | exact .rp (by decide)) rfl rfl) ?_
  refine wp rfl hC (oc_load hC (.tmp rfl) (by first | exact .p rfl | exact .rp) shp_22 (by first | exact unit_one rfl | exact unit_I (by first | omega | (simp <;> fail) | (simp; omega)) | exact unit_c rfl (by decide) | exact unit_c rfl (by simp)) rfl rfl) ?_
  refine wp rfl hC (oc_call hC (.cons (.tmp rfl) (.cons .func .nil)) (.cons1 (by first | exact .free (by first | exact inSL_I _ | simp) | exact .row rfl rfl (by first | exact inSL_I _ | simp) | exact .nils | exact .sl1 rfl (by first | exact cut_I | rfl) (by first | exact inSL_I _ | simp)) (.cons1 (.free (by first | exact inSL_I _ | simp)) (.same (by first | exact inSL_I _ | simp)))) (index_c n b hb hl) glob_nil (by first | exact inSL_I _ | simp) (by first | exact .inl rfl | exact .inr (by simp)) rfl rfl) ?_
  rw [hlo]
  refine wp rfl hC (oc_assign hC (.tmp rfl) rfl rfl) ?_
  refine WL_nil ?_
  refine W_seq ?_
  refine wsr ?_
  refine wp rfl hC (oc_move hC (.tmp rfl) rfl rfl) ?_
  refine wp rfl hC (ox_cmp hC rfl (.tmp rfl) .cint (r := false) (by simp only [cmpI]; exact decide_eq_false (by omega)) rfl rfl) ?_
  refine wp rfl hC (oc_move hC (.tmp rfl) rfl rfl) ?_
  refine WL_cons hC.fn (.yes rfl rfl (by decide) rfl (oc_move hC (.tmp rfl) rfl rfl)) ?_
  refine WL_cons hC.fn (.yes rfl rfl (by decide) rfl (ox_cmp hC rfl (.tmp rfl) .cint (r := true) (by simp only [cmpI]; exact decide_eq_true (by omega)) rfl rfl)) ?_
  refine WL_cons hC.fn (.yes rfl rfl (by decide) rfl (oc_move hC (.tmp rfl) rfl rfl)) ?_
  refine WL_cons hC.fn (.yes rfl rfl (by decide) rfl (oc_move hC (.tmp rfl) rfl rfl)) ?_
  refine WL_cons hC.fn (.yes rfl rfl (by decide) rfl (oc_nilCheck hC (.tmp rfl) rfl rfl)) ?_
  refine WL_cons hC.fn (.yes rfl rfl (by decide) rfl (oc_field hC (.tmp rfl) fld_73_0 (by decide) (by first | exact .p (Nat.zero_add _) | exact .p rfl | exact .rp (by decide)) rfl rfl)) ?_
  refine WL_cons hC.fn (.yes rfl rfl (by decide) rfl (oc_load hC (.tmp rfl) (by first | exact .p rfl | exact .rp) shp_22 (by first | exact unit_one rfl | exact unit_I (by first | omega | (simp <;> fail) | (simp; omega)) | exact unit_c rfl (by decide) | exact unit_c rfl (by simp)) rfl rfl)) ?_
  refine WL_cons hC.fn (.yes rfl rfl (by decide) rfl (ox_len hC (.tmp rfl) (by first | exact .row rfl | exact .vs | exact .sl rfl | exact .nils) Tryd.underlying22 rfl rfl rfl)) ?_
  refine WL_cons hC.fn (.yes rfl rfl (by decide) rfl (ox_cmp hC rfl (.tmp rfl) .cint (r := false) (by simp only [cmpI]; exact decide_eq_false (by omega)) rfl rfl)) ?_
  refine WL_cons hC.fn (.yes rfl rfl (by decide) rfl (ox_pick hC (.tmp rfl) (.tmp rfl) .cbool (by first | exact pick_t | exact pick_f | rfl) rfl rfl)) ?_
  refine wp rfl hC (ox_pick hC (.tmp rfl) .cbool (.tmp rfl) (by first | exact pick_t | exact pick_f | rfl) rfl rfl) ?_
  refine WL_nil ?_
  refine W_cond rfl (by decide) (fun hc => by cases hc) (fun _ => ?_)
  refine W_skip ?_
  refine W_seq ?_
  refine wsr ?_
  refine wp rfl hC (oc_move hC (.tmp rfl) rfl rfl) ?_
  refine wp rfl hC (ox_cmp hC rfl (.tmp rfl) .cint (r := true) (by simp only [cmpI]; exact decide_eq_true (by omega)) rfl rfl) ?_
  refine WL_nil ?_
  refine W_cond rfl (by decide) (fun _ => ?_) (fun hc => by cases hc)
  refine wsr ?_
  refine wp rfl hC (oc_move hC (.tmp rfl) rfl rfl) ?_
  refine wp rfl hC (oc_callG (τ := fun k => bif Nat.beq k 0 then 0 else k) (N' := 1) hC .func (.cons (.tmp rfl) (.cons .cint .nil)) (.own (by first | rfl | simp) (.v1 (.free (by first | exact inSL_I _ | simp)) .end)) (fail_c n b e hb hb8 hl 2 2 (.inl ⟨he, rfl⟩)) glob_nil (mr_cons (by first | exact ren_blkI | exact ren_rowI | exact Blk.ren_free (by simp) _ | rfl) rfl mr_nil) (mr_cons (by first | exact ren_blkI | exact ren_rowI | exact Blk.ren_free (by simp) _ | rfl) rfl mr_nil) rfl (rd_cons rfl rd_nil) rfl rfl rfl rfl (by first | exact .inl rfl | exact .inr ⟨by simp, (nv_cons (by first | exact novsL_I _ | simp) nv_nil)⟩) rfl (dst_ok rfl rfl) (fun t => setE_cons _ _ _ _)) ?_
  refine WL_nil ?_
  refine wsr ?_
  refine wp rfl hC (oc_assign hC .cint rfl rfl) ?_
  refine WL_nil ?_
  refine W_ret ?_
  exact finK (fun k => k) (.cons (.tmp rfl) .nil) rfl (wr_cons rfl (Blk.ren_free (by simp) _) wr_nil) rfl rfl
set_option maxRecDepth 20000 in
set_option maxHeartbeats 4000000 in
theorem numnought_c (n : Nat) (b : List Int) (e : Int) (hb : b.length = n) (hb8 : B8 b) (hl : n ≤ 1099511627776) (most : Int) (he : e = 0) (h : ix7 b < n) (h6 : ix7 b < 6) (h0 : 0 < ix7 b) (hz : b.getD (ix7 b) 0 = 0) : FnC Tryd.prog 35 [] [.p 0 0, .i .i64 most] [(0, .blk 73 [.vs n (I .u8 b), .i .i64 e])] [(0, .blk 73 [.vs (n - (ix7 b + 1)) (I .u8 (b.drop (ix7 b + 1))), .i .i64 4])] (.i .i64 0) := by
  have hix := ix7_le b
  have hlo : lastOf b = (ix7 b : Int) := by unfold lastOf; rw [if_pos (by omega)]
  have hx8 : B8 (b.take (ix7 b + 1)) := fun x hx => hb8 x (List.mem_of_mem_take hx)
  have hxl : (b.take (ix7 b + 1)).length = ix7 b + 1 := by rw [List.length_take]; omega
  have hve : vnum ((b.take (ix7 b + 1)).drop (ix7 b + 1)) = 0 := by
    have h0 := vnum_end (l := (b.take (ix7 b + 1)))
    rwa [hxl] at h0
  have hxa : (b.take (ix7 b + 1)).getD (ix7 b) 0 = b.getD (ix7 b) 0 := take_get (by omega)
  have hvx := vnum_lt (l := (b.take (ix7 b + 1))) (by omega)
  refine FnC.introR (N0 := 1) (T := 75) (E := [(0, .p 0 0), (1, .i .i64 most)]) Tryd.func35 rfl (by decide) mix rfl rfl rfl (by simp) rfl ⟨(by first | exact inSL_I _ | trivial | simp), (by first | exact inSL_I _ | trivial | simp), trivial⟩ (by intro k b hm; simp only [List.mem_cons, Prod.mk.injEq, List.not_mem_nil, or_false] at hm; rcases hm with ⟨rfl, rfl⟩ <;> exact ⟨by decide, by first | exact inSL_I _ | simp⟩) (by
        intro S ha hr hw
        have s0 : S 0 := (hr 0 _ List.mem_cons_self).1
        refine ⟨by first | exact inSL_I _ | simp [s0], fun k b hm => ?_⟩
        simp only [List.mem_cons, Prod.mk.injEq, List.not_mem_nil, or_false] at hm
        rcases hm with ⟨rfl, rfl⟩
        · exact ⟨s0, by first | exact inSL_I _ | simp [s0]⟩) (fun F n0 X w ρ hC hro => ?_)
  refine wsr ?_
  refine wp rfl hC (oc_assign hC .cint rfl rfl) ?_
  refine WL_nil ?_
  refine W_seq ?_
  refine wsr ?_
  refine wp rfl hC (oc_move hC (.tmp rfl) rfl rfl) ?_
  refine wp rfl hC (oc_callG (τ := fun k => bif Nat.beq k 0 then 0 else k) (N' := 1) hC .func (.cons (.tmp rfl) .nil) (.own (by first | rfl | simp) .end) (err_c n b e hb hb8 hl) glob_nil (mr_cons (by first | exact ren_blkI | exact ren_rowI | exact Blk.ren_free (by simp) _ | rfl) rfl mr_nil) (mr_cons (by first | exact ren_blkI | exact ren_rowI | exact Blk.ren_free (by simp) _ | rfl) rfl mr_nil) rfl (rd_cons rfl rd_nil) rfl rfl rfl rfl (by first | exact .inl rfl | exact .inr ⟨by simp, (nv_cons (by first | exact novsL_I _ | simp) nv_nil)⟩) rfl (dst_ok rfl rfl) (fun t => setE_cons _ _ _ _)) ?_
  refine wp rfl hC (ox_cmp hC rfl (.tmp rfl) .cint (r := false) (by simp only [cmpI]; exact decide_eq_false (by omega)) rfl rfl) ?_
  refine WL_nil ?_
  refine W_cond rfl (by decide) (fun hc => by cases hc) (fun _ => ?_)
  refine W_skip ?_
  refine wsr ?_
  refine wp rfl hC (oc_move hC (.tmp rfl) rfl rfl) ?_
  refine wp rfl hC (oc_nilCheck hC (.tmp rfl) rfl rfl) ?_
  refine wp rfl hC (oc_field hC (.tmp rfl) fld_73_0 (by decide) (by first | exact .p (Nat.zero_add _) | exact .p rfl | exact .rp (by decide)) rfl rfl) ?_
  refine wp rfl hC (oc_load hC (.tmp rfl) (by first | exact .p rfl | exact .rp) shp_22 (by first | exact unit_one rfl | exact unit_I (by first | omega | (simp <;> fail) | (simp; omega)) | exact unit_c rfl (by decide) | exact unit_c rfl (by simp)) rfl rfl) ?_
  refine wp rfl hC (oc_call hC (.cons (.tmp rfl) (.cons .func .nil)) (.cons1 (by first | exact .free (by first | exact inSL_I _ | simp) | exact .row rfl rfl (by first | exact inSL_I _ | simp) | exact .nils | exact .sl1 rfl (by first | exact cut_I | rfl) (by first | exact inSL_I _ | simp)) (.cons1 (.free (by first | exact inSL_I _ | simp)) (.same (by first | exact inSL_I _ | simp)))) (index_c n b hb hl) glob_nil (by first | exact inSL_I _ | simp) (by first | exact .inl rfl | exact .inr (by simp)) rfl rfl) ?_
  rw [hlo]
  refine wp rfl hC (oc_assign hC (.tmp rfl) rfl rfl) ?_
  refine WL_nil ?_
  refine W_seq ?_
  refine wsr ?_
  refine wp rfl hC (oc_move hC (.tmp rfl) rfl rfl) ?_
  refine wp rfl hC (ox_cmp hC rfl (.tmp rfl) .cint (r := false) (by simp only [cmpI]; exact decide_eq_false (by omega)) rfl rfl) ?_
  refine wp rfl hC (oc_move hC (.tmp rfl) rfl rfl) ?_
  refine WL_cons hC.fn (.yes rfl rfl (by decide) rfl (oc_move hC (.tmp rfl) rfl rfl)) ?_
  refine WL_cons hC.fn (.yes rfl rfl (by decide) rfl (ox_cmp hC rfl (.tmp rfl) .cint (r := false) (by simp only [cmpI]; exact decide_eq_false (by omega)) rfl rfl)) ?_
  refine WL_cons hC.fn (.yes rfl rfl (by decide) rfl (oc_move hC (.tmp rfl) rfl rfl)) ?_
  refine WL_cons hC.fn (.no (s1 := ⟨_, (24, .tu []) :: _, _⟩) rfl rfl (by decide) rfl (by decide) (fun t ht => by cases ht; exact ⟨blt_lt rfl, blt_lt rfl⟩) (fun t => setE_cons _ _ _ _) rfl rfl) ?_
  refine WL_cons hC.fn (.no (s1 := ⟨_, (25, .tu []) :: _, _⟩) rfl rfl (by decide) rfl (by decide) (fun t ht => by cases ht; exact ⟨blt_lt rfl, blt_lt rfl⟩) (fun t => setE_cons _ _ _ _) rfl rfl) ?_
  refine WL_cons hC.fn (.no (s1 := ⟨_, (26, .tu []) :: _, _⟩) rfl rfl (by decide) rfl (by decide) (fun t ht => by cases ht; exact ⟨blt_lt rfl, blt_lt rfl⟩) (fun t => setE_cons _ _ _ _) rfl rfl) ?_
  refine WL_cons hC.fn (.no (s1 := ⟨_, (27, .tu []) :: _, _⟩) rfl rfl (by decide) rfl (by decide) (fun t ht => by cases ht; exact ⟨blt_lt rfl, blt_lt rfl⟩) (fun t => setE_cons _ _ _ _) rfl rfl) ?_
  refine WL_cons hC.fn (.no (s1 := ⟨_, (28, .tu []) :: _, _⟩) rfl rfl (by decide) rfl (by decide) (fun t ht => by cases ht; exact ⟨blt_lt rfl, blt_lt rfl⟩) (fun t => setE_cons _ _ _ _) rfl rfl) ?_
  refine WL_cons hC.fn (.no (s1 := ⟨_, (29, .tu []) :: _, _⟩) rfl rfl (by decide) rfl (by decide) (fun t ht => by cases ht; exact ⟨blt_lt rfl, blt_lt rfl⟩) (fun t => setE_cons _ _ _ _) rfl rfl) ?_
  refine WL_cons hC.fn (.yes rfl rfl (by decide) rfl (ox_pick hC (.tmp rfl) (.tmp rfl) .cbool (by first | exact pick_t | exact pick_f | rfl) rfl rfl)) ?_
  refine wp rfl hC (ox_pick hC (.tmp rfl) .cbool (.tmp rfl) (by first | exact pick_t | exact pick_f | rfl) rfl rfl) ?_
  refine WL_nil ?_
  refine W_cond rfl (by decide) (fun hc => by cases hc) (fun _ => ?_)
  refine W_skip ?_
  refine W_seq ?_
  refine wsr ?_
  refine wp rfl hC (oc_move hC (.tmp rfl) rfl rfl) ?_
  refine wp rfl hC (ox_cmp hC rfl (.tmp rfl) .cint (r := false) (by simp only [cmpI]; exact decide_eq_false (by omega)) rfl rfl) ?_
  refine WL_nil ?_
  refine W_cond rfl (by decide) (fun hc => by cases hc) (fun _ => ?_)
  refine W_skip ?_
  refine wsr ?_
  refine wp rfl hC (ox_alloc hC zero_3 rfl rfl rfl) ?_
  refine wp rfl hC (ox_store hC (.tmp rfl) .cint rfl shp_3 (by first | rfl | exact flat_agI) (by first | exact cells1 rfl | (rw [cells_ag, length_I]; omega) | rfl | (simp <;> fail) | (simp; omega)) (by first | exact Nat.le_refl _ | exact Nat.le_of_ble_eq_true rfl | decide | (simp <;> fail) | (simp; omega)) (by first | exact put_one rfl | exact put_blkI (by first | omega | (simp <;> fail) | (simp; omega)) | exact put_rowI (by first | omega | (simp <;> fail) | (simp; omega)) | rfl) (by first | exact .here | exact .s1 rfl | exact .s2 rfl rfl | exact .s3 rfl rfl rfl | exact .s4 rfl rfl rfl rfl | exact .s5 rfl rfl rfl rfl rfl | exact .s6 rfl rfl rfl rfl rfl rfl | exact .s7 rfl rfl rfl rfl rfl rfl rfl | exact .s8 rfl rfl rfl rfl rfl rfl rfl rfl) rfl) ?_
  refine WL_nil ?_
  refine wsr ?_
  refine wp rfl hC (oc_move hC (.tmp rfl) rfl rfl) ?_
  refine wp rfl hC (oc_move hC (.tmp rfl) rfl rfl) ?_
  refine wp rfl hC (oc_bin hC rfl (.tmp rfl) .cint (by first | exact i64_add (by omega) | rfl) rfl rfl) ?_
  refine wp rfl hC (oc_callG (τ := fun k => bif Nat.beq k 0 then 0 else k) (N' := 2) hC .func (.cons (.tmp rfl) (.cons (.tmp rfl) .nil)) (.own (by first | rfl | simp) (.v1 (.free (by first | exact inSL_I _ | simp)) .end)) (take_c n b e hb hb8 hl (ix7 b + 1) he (by omega)) glob_nil (mr_cons (by first | exact ren_blkI | exact ren_rowI | exact Blk.ren_free (by simp) _ | rfl) rfl mr_nil) (mr_cons (by first | exact ren_blkI | exact ren_rowI | exact Blk.ren_free (by simp) _ | rfl) rfl mr_nil) ren_vsI (rd_cons rfl rd_nil) rfl rfl rfl rfl (by first | exact .inl rfl | exact .inr ⟨by simp, (nv_cons (by first | exact novsL_I _ | simp) nv_nil)⟩) rfl (dst_ok rfl rfl) (fun t => setE_cons _ _ _ _)) ?_
  refine wp rfl hC (oc_assign hC (.tmp rfl) rfl rfl) ?_
  refine WL_nil ?_
  refine W_seq ?_
  refine wsr ?_
  refine wp rfl hC (oc_move hC (.tmp rfl) rfl rfl) ?_
  refine wp rfl hC (oc_callG (v' := .f 45 [.p 2 0]) (τ := fun k => bif Nat.beq k 0 then 2 else k) (N' := 3) hC .func (.cons (.tmp rfl) .nil) (.v1 (by first | exact .free (by first | exact inSL_I _ | simp) | exact .row rfl rfl (by first | exact inSL_I _ | simp) | exact .nils | exact .sl1 rfl (by first | exact cut_I | rfl) (by first | exact inSL_I _ | simp)) .end) (backward_c (ix7 b + 1) (b.take (ix7 b + 1))) glob_nil mr_nil (mr_cons (by first | exact ren_blkI | exact ren_rowI | exact Blk.ren_free (by simp) _ | rfl) rfl mr_nil) rfl rd_nil rfl rfl rfl rfl (by first | exact .inl rfl | exact .inr ⟨by simp, (nv_cons (by first | exact novsL_I _ | simp) nv_nil)⟩) rfl (dst_ok rfl rfl) (fun t => setE_cons _ _ _ _)) ?_
  refine WL_nil ?_
  refine W_blk ?_
  refine W_range (T := 19) (G := []) [0, 1, 2] hC hro rfl rfl rfl rfl Tryd.func45 rfl rfl (by decide) rfl rfl rfl glob_nil rfl (by simp) (fun k hk => by first | exact absurd hk (Nat.not_lt_zero _) | (have hk2 : k < 1 := hk; have : k = 0 ∨ k = 1 ∨ k = 2 ∨ k = 3 := (by omega); rcases this with rfl | rfl | rfl | rfl <;> first | decide | omega)) (by show ∀ k ∈ _, k < 3; decide) (fun ρ1 w1 H1 l1 r1 hI1 hR1 => ?_)
  refine wsr ?_
  refine WL_cons hI1.fn (.plain rfl (oc_load hI1 (.tmp rfl) (by first | exact .p rfl | exact .rp) shp_22 (by first | exact unit_one rfl | exact unit_I (by first | omega | (simp <;> fail) | (simp; omega)) | exact unit_c rfl (by decide) | exact unit_c rfl (by simp)) rfl rfl)) ?_
  refine WL_cons hI1.fn (.plain rfl (ox_len hI1 (.tmp rfl) (by first | exact .row rfl | exact .vs | exact .sl rfl | exact .nils) Tryd.underlying22 rfl rfl rfl)) ?_
  refine WL_cons hI1.fn (.plain rfl (oc_bin hI1 rfl (.tmp rfl) .cint (by first | exact i64_sub (by omega) | rfl) rfl rfl)) ?_
  refine WL_cons hI1.fn (.plain rfl (oc_assign hI1 (.tmp rfl) rfl rfl)) ?_
  refine WL_nil ?_
  refine W_blk ?_
  refine W_loopW (fun (ζ : Nat) => ⟨3, [(3, .i .i64 ((ζ : Int) - 1)), (0, .f (1000000000 + l1) []), (1, .p 2 0), (5000000, .rp [])], [(0, .blk 73 [.vs (n - (ix7 b + 1)) (I .u8 (b.drop (ix7 b + 1))), .i .i64 e]), (1, .blk 3 [.i .i64 (vnum ((b.take (ix7 b + 1)).drop ζ))]), (2, .blk 22 [.vs (ix7 b + 1) (I .u8 (b.take (ix7 b + 1)))])]⟩) (fun ζ => ζ ≤ ix7 b + 1) (fun ζ => ζ) ((ix7 b + 1)) (Nat.le_refl _) (weakK (fun k => k) (.cons rfl (congrArg (AV.i _) (by omega)) trivial (.cons rfl (by first | exact ren_agI | exact ren_vsI | exact ren_free _ _ (by first | exact inSL_I _ | simp)) (by first | exact inSL_I _ | simp) (.cons rfl (by first | rfl | simp) (by show _ < _; decide) (.cons rfl (by first | exact ren_agI | exact ren_vsI | exact ren_free _ _ (by first | exact inSL_I _ | simp)) (by first | exact inSL_I _ | simp) .nil)))) (.cons rfl (Blk.ren_free (by simp) _) rfl (by first | exact inSL_I _ | simp) (.cons rfl (by rw [hve]; rfl) rfl (by first | exact inSL_I _ | simp) (.cons rfl (Blk.ren_free (by simp) _) rfl (by first | exact inSL_I _ | simp) .nil))) rfl rfl rfl) ?_
  intro i hR
  replace hR : i ≤ ix7 b + 1 := hR
  first | show W _ _ _ ⟨3, [(3, .i .i64 ((i : Int) - 1)), (0, .f (1000000000 + l1) []), (1, .p 2 0), (5000000, .rp [])], [(0, .blk 73 [.vs (n - (ix7 b + 1)) (I .u8 (b.drop (ix7 b + 1))), .i .i64 e]), (1, .blk 3 [.i .i64 (vnum ((b.take (ix7 b + 1)).drop i))]), (2, .blk 22 [.vs (ix7 b + 1) (I .u8 (b.take (ix7 b + 1)))])]⟩ | skip
  refine W_seq ?_
  refine wsr ?_
  refine WL_cons hI1.fn (.plain rfl (oc_move hI1 (.tmp rfl) rfl rfl)) ?_
  refine WL_cons hI1.fn (.plain rfl (ox_cmp hI1 rfl (.tmp rfl) .cint rfl rfl rfl)) ?_
  refine WL_nil ?_
  refine W_cond rfl (by decide) (fun hc => ?_) (fun hc => ?_)
  ·
    replace hc := geq_t hc
    obtain ⟨j, rfl⟩ : ∃ j, i = j + 1 := ⟨i - 1, by omega⟩
    have hxj := hx8.get j
    have hvj := vnum_lt (l := (b.take (ix7 b + 1)).drop (j + 1)) (by rw [List.length_drop, hxl]; omega)
    have hvd := vnum_drop (l := (b.take (ix7 b + 1))) (i := j) (by omega)
    refine W_skip ?_
    refine W_seq ?_
    refine W_blk ?_
    refine wsr ?_
    refine WL_cons hI1.fn (.plain rfl (oc_move hI1 (.tmp rfl) rfl rfl)) ?_
    refine WL_cons hI1.fn (.plain rfl (oc_move hI1 (.tmp rfl) rfl rfl)) ?_
    refine WL_cons hI1.fn (.plain rfl (oc_load hI1 (.tmp rfl) (by first | exact .p rfl | exact .rp) shp_22 (by first | exact unit_one rfl | exact unit_I (by first | omega | (simp <;> fail) | (simp; omega)) | exact unit_c rfl (by decide) | exact unit_c rfl (by simp)) rfl rfl)) ?_
    refine WL_cons hI1.fn (.plain rfl (oc_move hI1 (.tmp rfl) rfl rfl)) ?_
    refine WL_cons hI1.fn (.plain rfl (ox_indexS hI1 (j := j) (.tmp rfl) (.tmp rfl) idx_22 (by omega) (by first | exact Nat.mul_one _ | rfl) (by first | exact .row rfl | exact .sl (Nat.zero_add _) | exact .sl rfl | exact .vs (by first | omega | (simp <;> fail) | (simp; omega))) (by first | omega | (simp <;> fail) | (simp; omega)) rfl rfl)) ?_
    refine WL_cons hI1.fn (.plain rfl (oc_load hI1 (.tmp rfl) (by first | exact .p rfl | exact .rp) shp_5 (by exact (unit_I (by first | omega | (simp <;> fail) | (simp; omega)))) rfl rfl)) ?_
    refine WL_yield [0, 1, 2] hR1 hI1 rfl rfl (.cons (.tmp rfl) (.cons (.tmp rfl) .nil)) rfl rfl rfl rfl rfl rfl (by decide) (by simp) (by show ∀ k ∈ _, k < 3; decide) (fun ρb wb Hb hB => ?_)
    refine W_region ?_
    refine WL_cons hB.fn (.plain rfl (oc_assign hB (.tmp rfl) rfl rfl)) ?_
    refine WL_nil ?_
    refine ⟨rfl, ?_⟩
    refine W_blk ?_
    refine W_region ?_
    refine WL_cons hB.fn (.plain rfl (oc_load hB (.tmp rfl) (by first | exact .p rfl | exact .rp) shp_3 (by first | exact unit_one rfl | exact unit_I (by first | omega | (simp <;> fail) | (simp; omega)) | exact unit_c rfl (by decide) | exact unit_c rfl (by simp)) rfl rfl)) ?_
    refine WL_cons hB.fn (.plain rfl (oc_shift hB (.inl rfl) (.tmp rfl) .cint (by first | decide | omega) (r := vnum ((b.take (ix7 b + 1)).drop (j + 1)) * 128) (by rw [show (7 : Int) = ((7 : Nat) : Int) from rfl, shl_n (n := 7) rfl (by decide), show (2 : Int) ^ 7 = 128 by decide]; exact i64_conv (by omega)) rfl rfl)) ?_
    refine WL_cons hB.fn (.plain rfl (oc_move hB (.tmp rfl) rfl rfl)) ?_
    refine WL_cons hB.fn (.plain rfl (oc_bin hB rfl (.tmp rfl) .cint (r := (b.take (ix7 b + 1)).getD j 0 % 128) (and_127 hxj) rfl rfl)) ?_
    refine WL_cons hB.fn (.plain rfl (oc_conv hB (.tmp rfl) rfl Tryd.underlying3 (by first | exact i64_conv (by omega) | rfl) rfl rfl)) ?_
    refine WL_cons hB.fn (.plain rfl (oc_bin hB rfl (.tmp rfl) (.tmp rfl) (r := vnum ((b.take (ix7 b + 1)).drop j)) (by rw [hvd]; exact or_add64 hvj.1 (by omega) (by omega)) rfl rfl)) ?_
    refine WL_cons hB.fn (.plain rfl (ox_store hB (.tmp rfl) (.tmp rfl) rfl shp_3 (by first | rfl | exact flat_agI) (by first | exact cells1 rfl | (rw [cells_ag, length_I]; omega) | rfl | (simp <;> fail) | (simp; omega)) (by first | exact Nat.le_refl _ | exact Nat.le_of_ble_eq_true rfl | decide | (simp <;> fail) | (simp; omega)) (by first | exact put_one rfl | exact put_blkI (by first | omega | (simp <;> fail) | (simp; omega)) | exact put_rowI (by first | omega | (simp <;> fail) | (simp; omega)) | rfl) (by first | exact .here | exact .s1 rfl | exact .s2 rfl rfl | exact .s3 rfl rfl rfl | exact .s4 rfl rfl rfl rfl | exact .s5 rfl rfl rfl rfl rfl | exact .s6 rfl rfl rfl rfl rfl rfl | exact .s7 rfl rfl rfl rfl rfl rfl rfl | exact .s8 rfl rfl rfl rfl rfl rfl rfl rfl) rfl)) ?_
    refine WL_nil ?_
    refine rd_n (by rfl) ?_
    refine WL_cons hI1.fn (.plain rfl (oc_not hI1 (.tmp rfl) rfl rfl)) ?_
    refine WL_nil ?_
    refine W_cond rfl (by decide) (fun hc => by cases hc) (fun _ => ?_)
    refine W_skip ?_
    refine W_region ?_
    refine WL_cons hI1.fn (.plain rfl (oc_move hI1 (.tmp rfl) rfl rfl)) ?_
    refine WL_cons hI1.fn (.plain rfl (oc_bin hI1 rfl (.tmp rfl) .cint (by first | exact i64_sub (by omega) | rfl) rfl rfl)) ?_
    refine WL_cons hI1.fn (.plain rfl (oc_assign hI1 (.tmp rfl) rfl rfl)) ?_
    refine WL_nil ?_
    exact ⟨(j), (by omega), (weakK (fun k => k) (.cons rfl (congrArg (AV.i _) (by omega)) trivial (.cons rfl (by first | exact ren_agI | exact ren_vsI | exact ren_free _ _ (by first | exact inSL_I _ | simp)) (by first | exact inSL_I _ | simp) (.cons rfl (by first | rfl | simp) (by show _ < _; decide) (.cons rfl (by first | exact ren_agI | exact ren_vsI | exact ren_free _ _ (by first | exact inSL_I _ | simp)) (by first | exact inSL_I _ | simp) .nil)))) (.cons rfl (Blk.ren_free (by simp) _) rfl (by first | exact inSL_I _ | simp) (.cons rfl rfl rfl (by first | exact inSL_I _ | simp) (.cons rfl (Blk.ren_free (by simp) _) rfl (by first | exact inSL_I _ | simp) .nil))) rfl rfl rfl), (by omega)⟩
  ·
    replace hc := geq_f hc
    obtain rfl : i = 0 := by omega
    rw [List.drop_zero]
    refine W_exit ?_
    refine rq_n (.inl rfl) (by rfl) ?_
    refine W_seq ?_
    refine W_blk ?_
    refine wsr ?_
    refine wp rfl hC (oc_move hC (.tmp rfl) rfl rfl) ?_
    refine wp rfl hC (ox_cmp hC rfl (.tmp rfl) .cint (r := true) (by simp only [cmpI]; exact decide_eq_true (by omega)) rfl rfl) ?_
    refine wp rfl hC (oc_move hC (.tmp rfl) rfl rfl) ?_
    refine WL_cons hC.fn (.yes rfl rfl (by decide) rfl (oc_move hC (.tmp rfl) rfl rfl)) ?_
    refine WL_cons hC.fn (.yes rfl rfl (by decide) rfl (oc_move hC (.tmp rfl) rfl rfl)) ?_
    refine WL_cons hC.fn (.yes rfl rfl (by decide) rfl (ox_indexS hC  (.tmp rfl) (.tmp rfl) idx_22 (by first | rfl | exact toNat_up (by omega)) (by first | exact Nat.mul_one _ | rfl) (by first | exact .row rfl | exact .sl (Nat.zero_add _) | exact .sl rfl | exact .vs (by first | omega | (simp <;> fail) | (simp; omega))) (by first | omega | (simp <;> fail) | (simp; omega)) rfl rfl)) ?_
    refine WL_cons hC.fn (.yes rfl rfl (by decide) rfl (oc_load hC (.tmp rfl) (by first | exact .p rfl | exact .rp) shp_5 (by exact (unit_I (by first | omega | (simp <;> fail) | (simp; omega)))) rfl rfl)) ?_
    refine WL_cons hC.fn (.yes rfl rfl (by decide) rfl (ox_cmp hC rfl (.tmp rfl) .cint (r := true) (by rw [hxa, hz]; rfl) rfl rfl)) ?_
    refine wp rfl hC (ox_pick hC (.tmp rfl) (.tmp rfl) .cbool (by first | exact pick_t | exact pick_f | rfl) rfl rfl) ?_
    refine wp rfl hC (oc_assign hC (.tmp rfl) rfl rfl) ?_
    refine WL_nil ?_
    refine W_cond rfl (by decide) (fun _ => ?_) (fun hc => by cases hc)
    refine wsr ?_
    refine wp rfl hC (oc_move hC (.tmp rfl) rfl rfl) ?_
    refine wp rfl hC (oc_callG (τ := fun k => bif Nat.beq k 0 then 0 else k) (N' := 3) hC .func (.cons (.tmp rfl) (.cons .cint .nil)) (.own (by first | rfl | simp) (.v1 (.free (by first | exact inSL_I _ | simp)) .end)) (fail_c (n - (ix7 b + 1)) (b.drop (ix7 b + 1)) e (by simp [hb]) (fun x hx => hb8 x (List.mem_of_mem_drop hx)) (by omega) 4 4 (.inl ⟨he, rfl⟩)) glob_nil (mr_cons (by first | exact ren_blkI | exact ren_rowI | exact Blk.ren_free (by simp) _ | rfl) rfl mr_nil) (mr_cons (by first | exact ren_blkI | exact ren_rowI | exact Blk.ren_free (by simp) _ | rfl) rfl mr_nil) rfl (rd_cons rfl rd_nil) rfl rfl rfl rfl (by first | exact .inl rfl | exact .inr ⟨by simp, (nv_cons (by first | exact novsL_I _ | simp) nv_nil)⟩) rfl (dst_ok rfl rfl) (fun t => setE_cons _ _ _ _)) ?_
    refine WL_nil ?_
    refine wsr ?_
    refine wp rfl hC (oc_assign hC .cint rfl rfl) ?_
    refine WL_nil ?_
    refine W_ret ?_
    exact finK (fun k => k) (.cons (.tmp rfl) .nil) rfl (wr_cons rfl (Blk.ren_free (by simp) _) wr_nil) rfl rfl
set_option maxRecDepth 20000 in
set_option maxHeartbeats 4000000 in
theorem numgreat_c (n : Nat) (b : List Int) (e : Int) (hb : b.length = n) (hb8 : B8 b) (hl : n ≤ 1099511627776) (most : Int) (he : e = 0) (h : ix7 b < n) (h6 : ix7 b < 6) (hz : ix7 b = 0 ∨ b.getD (ix7 b) 0 ≠ 0) (hm : most < vnum (b.take (ix7 b + 1)) ∨ (vnum (b.take (ix7 b + 1)) ≤ most ∧ 1099511627775 < vnum (b.take (ix7 b + 1)))) : FnC Tryd.prog 35 [] [.p 0 0, .i .i64 most] [(0, .blk 73 [.vs n (I .u8 b), .i .i64 e])] [(0, .blk 73 [.vs (n - (ix7 b + 1)) (I .u8 (b.drop (ix7 b + 1))), .i .i64 3])] (.i .i64 0) := by
  have hix := ix7_le b
  have hlo : lastOf b = (ix7 b : Int) := by unfold lastOf; rw [if_pos (by omega)]
  have hx8 : B8 (b.take (ix7 b + 1)) := fun x hx => hb8 x (List.mem_of_mem_take hx)
  have hxl : (b.take (ix7 b + 1)).length = ix7 b + 1 := by rw [List.length_take]; omega
  have hve : vnum ((b.take (ix7 b + 1)).drop (ix7 b + 1)) = 0 := by
    have h0 := vnum_end (l := (b.take (ix7 b + 1)))
    rwa [hxl] at h0
  have hxa : (b.take (ix7 b + 1)).getD (ix7 b) 0 = b.getD (ix7 b) 0 := take_get (by omega)
  have hvx := vnum_lt (l := (b.take (ix7 b + 1))) (by omega)
  refine FnC.introR (N0 := 1) (T := 75) (E := [(0, .p 0 0), (1, .i .i64 most)]) Tryd.func35 rfl (by decide) mix rfl rfl rfl (by simp) rfl ⟨(by first | exact inSL_I _ | trivial | simp), (by first | exact inSL_I _ | trivial | simp), trivial⟩ (by intro k b hm; simp only [List.mem_cons, Prod.mk.injEq, List.not_mem_nil, or_false] at hm; rcases hm with ⟨rfl, rfl⟩ <;> exact ⟨by decide, by first | exact inSL_I _ | simp⟩) (by
        intro S ha hr hw
        have s0 : S 0 := (hr 0 _ List.mem_cons_self).1
        refine ⟨by first | exact inSL_I _ | simp [s0], fun k b hm => ?_⟩
        simp only [List.mem_cons, Prod.mk.injEq, List.not_mem_nil, or_false] at hm
        rcases hm with ⟨rfl, rfl⟩
        · exact ⟨s0, by first | exact inSL_I _ | simp [s0]⟩) (fun F n0 X w ρ hC hro => ?_)
  refine wsr ?_
  refine wp rfl hC (oc_assign hC .cint rfl rfl) ?_
  refine WL_nil ?_
  refine W_seq ?_
  refine wsr ?_
  refine wp rfl hC (oc_move hC (.tmp rfl) rfl rfl) ?_
  refine wp rfl hC (oc_callG (τ := fun k => bif Nat.beq k 0 then 0 else k) (N' := 1) hC .func (.cons (.tmp rfl) .nil) (.own (by first | rfl | simp) .end) (err_c n b e hb hb8 hl) glob_nil (mr_cons (by first | exact ren_blkI | exact ren_rowI | exact Blk.ren_free (by simp) _ | rfl) rfl mr_nil) (mr_cons (by first | exact ren_blkI | exact ren_rowI | exact Blk.ren_free (by simp) _ | rfl) rfl mr_nil) rfl (rd_cons rfl rd_nil) rfl rfl rfl rfl (by first | exact .inl rfl | exact .inr ⟨by simp, (nv_cons (by first | exact novsL_I _ | simp) nv_nil)⟩) rfl (dst_ok rfl rfl) (fun t => setE_cons _ _ _ _)) ?_
  refine wp rfl hC (ox_cmp hC rfl (.tmp rfl) .cint (r := false) (by simp only [cmpI]; exact decide_eq_false (by omega)) rfl rfl) ?_
  refine WL_nil ?_
  refine W_cond rfl (by decide) (fun hc => by cases hc) (fun _ => ?_)
  refine W_skip ?_
  refine wsr ?_
  refine wp rfl hC (oc_move hC (.tmp rfl) rfl rfl) ?_
  refine wp rfl hC (oc_nilCheck hC (.tmp rfl) rfl rfl) ?_
  refine wp rfl hC (oc_field hC (.tmp rfl) fld_73_0 (by decide) (by first | exact .p (Nat.zero_add _) | exact .p rfl | exact .rp (by decide)) rfl rfl) ?_
  refine wp rfl hC (oc_load hC (.tmp rfl) (by first | exact .p rfl | exact .rp) shp_22 (by first | exact unit_one rfl | exact unit_I (by first | omega | (simp <;> fail) | (simp; omega)) | exact unit_c rfl (by decide) | exact unit_c rfl (by simp)) rfl rfl) ?_
  refine wp rfl hC (oc_call hC (.cons (.tmp rfl) (.cons .func .nil)) (.cons1 (by first | exact .free (by first | exact inSL_I _ | simp) | exact .row rfl rfl (by first | exact inSL_I _ | simp) | exact .nils | exact .sl1 rfl (by first | exact cut_I | rfl) (by first | exact inSL_I _ | simp)) (.cons1 (.free (by first | exact inSL_I _ | simp)) (.same (by first | exact inSL_I _ | simp)))) (index_c n b hb hl) glob_nil (by first | exact inSL_I _ | simp) (by first | exact .inl rfl | exact .inr (by simp)) rfl rfl) ?_
  rw [hlo]
  refine wp rfl hC (oc_assign hC (.tmp rfl) rfl rfl) ?_
  refine WL_nil ?_
  refine W_seq ?_
  refine wsr ?_
  refine wp rfl hC (oc_move hC (.tmp rfl) rfl rfl) ?_
  refine wp rfl hC (ox_cmp hC rfl (.tmp rfl) .cint (r := false) (by simp only [cmpI]; exact decide_eq_false (by omega)) rfl rfl) ?_
  refine wp rfl hC (oc_move hC (.tmp rfl) rfl rfl) ?_
  refine WL_cons hC.fn (.yes rfl rfl (by decide) rfl (oc_move hC (.tmp rfl) rfl rfl)) ?_
  refine WL_cons hC.fn (.yes rfl rfl (by decide) rfl (ox_cmp hC rfl (.tmp rfl) .cint (r := false) (by simp only [cmpI]; exact decide_eq_false (by omega)) rfl rfl)) ?_
  refine WL_cons hC.fn (.yes rfl rfl (by decide) rfl (oc_move hC (.tmp rfl) rfl rfl)) ?_
  refine WL_cons hC.fn (.no (s1 := ⟨_, (24, .tu []) :: _, _⟩) rfl rfl (by decide) rfl (by decide) (fun t ht => by cases ht; exact ⟨blt_lt rfl, blt_lt rfl⟩) (fun t => setE_cons _ _ _ _) rfl rfl) ?_
  refine WL_cons hC.fn (.no (s1 := ⟨_, (25, .tu []) :: _, _⟩) rfl rfl (by decide) rfl (by decide) (fun t ht => by cases ht; exact ⟨blt_lt rfl, blt_lt rfl⟩) (fun t => setE_cons _ _ _ _) rfl rfl) ?_
  refine WL_cons hC.fn (.no (s1 := ⟨_, (26, .tu []) :: _, _⟩) rfl rfl (by decide) rfl (by decide) (fun t ht => by cases ht; exact ⟨blt_lt rfl, blt_lt rfl⟩) (fun t => setE_cons _ _ _ _) rfl rfl) ?_
  refine WL_cons hC.fn (.no (s1 := ⟨_, (27, .tu []) :: _, _⟩) rfl rfl (by decide) rfl (by decide) (fun t ht => by cases ht; exact ⟨blt_lt rfl, blt_lt rfl⟩) (fun t => setE_cons _ _ _ _) rfl rfl) ?_
  refine WL_cons hC.fn (.no (s1 := ⟨_, (28, .tu []) :: _, _⟩) rfl rfl (by decide) rfl (by decide) (fun t ht => by cases ht; exact ⟨blt_lt rfl, blt_lt rfl⟩) (fun t => setE_cons _ _ _ _) rfl rfl) ?_
  refine WL_cons hC.fn (.no (s1 := ⟨_, (29, .tu []) :: _, _⟩) rfl rfl (by decide) rfl (by decide) (fun t ht => by cases ht; exact ⟨blt_lt rfl, blt_lt rfl⟩) (fun t => setE_cons _ _ _ _) rfl rfl) ?_
  refine WL_cons hC.fn (.yes rfl rfl (by decide) rfl (ox_pick hC (.tmp rfl) (.tmp rfl) .cbool (by first | exact pick_t | exact pick_f | rfl) rfl rfl)) ?_
  refine wp rfl hC (ox_pick hC (.tmp rfl) .cbool (.tmp rfl) (by first | exact pick_t | exact pick_f | rfl) rfl rfl) ?_
  refine WL_nil ?_
  refine W_cond rfl (by decide) (fun hc => by cases hc) (fun _ => ?_)
  refine W_skip ?_
  refine W_seq ?_
  refine wsr ?_
  refine wp rfl hC (oc_move hC (.tmp rfl) rfl rfl) ?_
  refine wp rfl hC (ox_cmp hC rfl (.tmp rfl) .cint (r := false) (by simp only [cmpI]; exact decide_eq_false (by omega)) rfl rfl) ?_
  refine WL_nil ?_
  refine W_cond rfl (by decide) (fun hc => by cases hc) (fun _ => ?_)
  refine W_skip ?_
  refine wsr ?_
  refine wp rfl hC (ox_alloc hC zero_3 rfl rfl rfl) ?_
  refine wp rfl hC (ox_store hC (.tmp rfl) .cint rfl shp_3 (by first | rfl | exact flat_agI) (by first | exact cells1 rfl | (rw [cells_ag, length_I]; omega) | rfl | (simp <;> fail) | (simp; omega)) (by first | exact Nat.le_refl _ | exact Nat.le_of_ble_eq_true rfl | decide | (simp <;> fail) | (simp; omega)) (by first | exact put_one rfl | exact put_blkI (by first | omega | (simp <;> fail) | (simp; omega)) | exact put_rowI (by first | omega | (simp <;> fail) | (simp; omega)) | rfl) (by first | exact .here | exact .s1 rfl | exact .s2 rfl rfl | exact .s3 rfl rfl rfl | exact .s4 rfl rfl rfl rfl | exact .s5 rfl rfl rfl rfl rfl | exact .s6 rfl rfl rfl rfl rfl rfl | exact .s7 rfl rfl rfl rfl rfl rfl rfl | exact .s8 rfl rfl rfl rfl rfl rfl rfl rfl) rfl) ?_
  refine WL_nil ?_
  refine wsr ?_
  refine wp rfl hC (oc_move hC (.tmp rfl) rfl rfl) ?_
  refine wp rfl hC (oc_move hC (.tmp rfl) rfl rfl) ?_
  refine wp rfl hC (oc_bin hC rfl (.tmp rfl) .cint (by first | exact i64_add (by omega) | rfl) rfl rfl) ?_
  refine wp rfl hC (oc_callG (τ := fun k => bif Nat.beq k 0 then 0 else k) (N' := 2) hC .func (.cons (.tmp rfl) (.cons (.tmp rfl) .nil)) (.own (by first | rfl | simp) (.v1 (.free (by first | exact inSL_I _ | simp)) .end)) (take_c n b e hb hb8 hl (ix7 b + 1) he (by omega)) glob_nil (mr_cons (by first | exact ren_blkI | exact ren_rowI | exact Blk.ren_free (by simp) _ | rfl) rfl mr_nil) (mr_cons (by first | exact ren_blkI | exact ren_rowI | exact Blk.ren_free (by simp) _ | rfl) rfl mr_nil) ren_vsI (rd_cons rfl rd_nil) rfl rfl rfl rfl (by first | exact .inl rfl | exact .inr ⟨by simp, (nv_cons (by first | exact novsL_I _ | simp) nv_nil)⟩) rfl (dst_ok rfl rfl) (fun t => setE_cons _ _ _ _)) ?_
  refine wp rfl hC (oc_assign hC (.tmp rfl) rfl rfl) ?_
  refine WL_nil ?_
  refine W_seq ?_
  refine wsr ?_
  refine wp rfl hC (oc_move hC (.tmp rfl) rfl rfl) ?_
  refine wp rfl hC (oc_callG (v' := .f 45 [.p 2 0]) (τ := fun k => bif Nat.beq k 0 then 2 else k) (N' := 3) hC .func (.cons (.tmp rfl) .nil) (.v1 (by first | exact .free (by first | exact inSL_I _ | simp) | exact .row rfl rfl (by first | exact inSL_I _ | simp) | exact .nils | exact .sl1 rfl (by first | exact cut_I | rfl) (by first | exact inSL_I _ | simp)) .end) (backward_c (ix7 b + 1) (b.take (ix7 b + 1))) glob_nil mr_nil (mr_cons (by first | exact ren_blkI | exact ren_rowI | exact Blk.ren_free (by simp) _ | rfl) rfl mr_nil) rfl rd_nil rfl rfl rfl rfl (by first | exact .inl rfl | exact .inr ⟨by simp, (nv_cons (by first | exact novsL_I _ | simp) nv_nil)⟩) rfl (dst_ok rfl rfl) (fun t => setE_cons _ _ _ _)) ?_
  refine WL_nil ?_
  refine W_blk ?_
  refine W_range (T := 19) (G := []) [0, 1, 2] hC hro rfl rfl rfl rfl Tryd.func45 rfl rfl (by decide) rfl rfl rfl glob_nil rfl (by simp) (fun k hk => by first | exact absurd hk (Nat.not_lt_zero _) | (have hk2 : k < 1 := hk; have : k = 0 ∨ k = 1 ∨ k = 2 ∨ k = 3 := (by omega); rcases this with rfl | rfl | rfl | rfl <;> first | decide | omega)) (by show ∀ k ∈ _, k < 3; decide) (fun ρ1 w1 H1 l1 r1 hI1 hR1 => ?_)
  refine wsr ?_
  refine WL_cons hI1.fn (.plain rfl (oc_load hI1 (.tmp rfl) (by first | exact .p rfl | exact .rp) shp_22 (by first | exact unit_one rfl | exact unit_I (by first | omega | (simp <;> fail) | (simp; omega)) | exact unit_c rfl (by decide) | exact unit_c rfl (by simp)) rfl rfl)) ?_
  refine WL_cons hI1.fn (.plain rfl (ox_len hI1 (.tmp rfl) (by first | exact .row rfl | exact .vs | exact .sl rfl | exact .nils) Tryd.underlying22 rfl rfl rfl)) ?_
  refine WL_cons hI1.fn (.plain rfl (oc_bin hI1 rfl (.tmp rfl) .cint (by first | exact i64_sub (by omega) | rfl) rfl rfl)) ?_
  refine WL_cons hI1.fn (.plain rfl (oc_assign hI1 (.tmp rfl) rfl rfl)) ?_
  refine WL_nil ?_
  refine W_blk ?_
  refine W_loopW (fun (ζ : Nat) => ⟨3, [(3, .i .i64 ((ζ : Int) - 1)), (0, .f (1000000000 + l1) []), (1, .p 2 0), (5000000, .rp [])], [(0, .blk 73 [.vs (n - (ix7 b + 1)) (I .u8 (b.drop (ix7 b + 1))), .i .i64 e]), (1, .blk 3 [.i .i64 (vnum ((b.take (ix7 b + 1)).drop ζ))]), (2, .blk 22 [.vs (ix7 b + 1) (I .u8 (b.take (ix7 b + 1)))])]⟩) (fun ζ => ζ ≤ ix7 b + 1) (fun ζ => ζ) ((ix7 b + 1)) (Nat.le_refl _) (weakK (fun k => k) (.cons rfl (congrArg (AV.i _) (by omega)) trivial (.cons rfl (by first | exact ren_agI | exact ren_vsI | exact ren_free _ _ (by first | exact inSL_I _ | simp)) (by first | exact inSL_I _ | simp) (.cons rfl (by first | rfl | simp) (by show _ < _; decide) (.cons rfl (by first | exact ren_agI | exact ren_vsI | exact ren_free _ _ (by first | exact inSL_I _ | simp)) (by first | exact inSL_I _ | simp) .nil)))) (.cons rfl (Blk.ren_free (by simp) _) rfl (by first | exact inSL_I _ | simp) (.cons rfl (by rw [hve]; rfl) rfl (by first | exact inSL_I _ | simp) (.cons rfl (Blk.ren_free (by simp) _) rfl (by first | exact inSL_I _ | simp) .nil))) rfl rfl rfl) ?_
  intro i hR
  replace hR : i ≤ ix7 b + 1 := hR
  first | show W _ _ _ ⟨3, [(3, .i .i64 ((i : Int) - 1)), (0, .f (1000000000 + l1) []), (1, .p 2 0), (5000000, .rp [])], [(0, .blk 73 [.vs (n - (ix7 b + 1)) (I .u8 (b.drop (ix7 b + 1))), .i .i64 e]), (1, .blk 3 [.i .i64 (vnum ((b.take (ix7 b + 1)).drop i))]), (2, .blk 22 [.vs (ix7 b + 1) (I .u8 (b.take (ix7 b + 1)))])]⟩ | skip
  refine W_seq ?_
  refine wsr ?_
  refine WL_cons hI1.fn (.plain rfl (oc_move hI1 (.tmp rfl) rfl rfl)) ?_
  refine WL_cons hI1.fn (.plain rfl (ox_cmp hI1 rfl (.tmp rfl) .cint rfl rfl rfl)) ?_
  refine WL_nil ?_
  refine W_cond rfl (by decide) (fun hc => ?_) (fun hc => ?_)
  ·
    replace hc := geq_t hc
    obtain ⟨j, rfl⟩ : ∃ j, i = j + 1 := ⟨i - 1, by omega⟩
    have hxj := hx8.get j
    have hvj := vnum_lt (l := (b.take (ix7 b + 1)).drop (j + 1)) (by rw [List.length_drop, hxl]; omega)
    have hvd := vnum_drop (l := (b.take (ix7 b + 1))) (i := j) (by omega)
    refine W_skip ?_
    refine W_seq ?_
    refine W_blk ?_
    refine wsr ?_
    refine WL_cons hI1.fn (.plain rfl (oc_move hI1 (.tmp rfl) rfl rfl)) ?_
    refine WL_cons hI1.fn (.plain rfl (oc_move hI1 (.tmp rfl) rfl rfl)) ?_
    refine WL_cons hI1.fn (.plain rfl (oc_load hI1 (.tmp rfl) (by first | exact .p rfl | exact .rp) shp_22 (by first | exact unit_one rfl | exact unit_I (by first | omega | (simp <;> fail) | (simp; omega)) | exact unit_c rfl (by decide) | exact unit_c rfl (by simp)) rfl rfl)) ?_
    refine WL_cons hI1.fn (.plain rfl (oc_move hI1 (.tmp rfl) rfl rfl)) ?_
    refine WL_cons hI1.fn (.plain rfl (ox_indexS hI1 (j := j) (.tmp rfl) (.tmp rfl) idx_22 (by omega) (by first | exact Nat.mul_one _ | rfl) (by first | exact .row rfl | exact .sl (Nat.zero_add _) | exact .sl rfl | exact .vs (by first | omega | (simp <;> fail) | (simp; omega))) (by first | omega | (simp <;> fail) | (simp; omega)) rfl rfl)) ?_
    refine WL_cons hI1.fn (.plain rfl (oc_load hI1 (.tmp rfl) (by first | exact .p rfl | exact .rp) shp_5 (by exact (unit_I (by first | omega | (simp <;> fail) | (simp; omega)))) rfl rfl)) ?_
    refine WL_yield [0, 1, 2] hR1 hI1 rfl rfl (.cons (.tmp rfl) (.cons (.tmp rfl) .nil)) rfl rfl rfl rfl rfl rfl (by decide) (by simp) (by show ∀ k ∈ _, k < 3; decide) (fun ρb wb Hb hB => ?_)
    refine W_region ?_
    refine WL_cons hB.fn (.plain rfl (oc_assign hB (.tmp rfl) rfl rfl)) ?_
    refine WL_nil ?_
    refine ⟨rfl, ?_⟩
    refine W_blk ?_
    refine W_region ?_
    refine WL_cons hB.fn (.plain rfl (oc_load hB (.tmp rfl) (by first | exact .p rfl | exact .rp) shp_3 (by first | exact unit_one rfl | exact unit_I (by first | omega | (simp <;> fail) | (simp; omega)) | exact unit_c rfl (by decide) | exact unit_c rfl (by simp)) rfl rfl)) ?_
    refine WL_cons hB.fn (.plain rfl (oc_shift hB (.inl rfl) (.tmp rfl) .cint (by first | decide | omega) (r := vnum ((b.take (ix7 b + 1)).drop (j + 1)) * 128) (by rw [show (7 : Int) = ((7 : Nat) : Int) from rfl, shl_n (n := 7) rfl (by decide), show (2 : Int) ^ 7 = 128 by decide]; exact i64_conv (by omega)) rfl rfl)) ?_
    refine WL_cons hB.fn (.plain rfl (oc_move hB (.tmp rfl) rfl rfl)) ?_
    refine WL_cons hB.fn (.plain rfl (oc_bin hB rfl (.tmp rfl) .cint (r := (b.take (ix7 b + 1)).getD j 0 % 128) (and_127 hxj) rfl rfl)) ?_
    refine WL_cons hB.fn (.plain rfl (oc_conv hB (.tmp rfl) rfl Tryd.underlying3 (by first | exact i64_conv (by omega) | rfl) rfl rfl)) ?_
    refine WL_cons hB.fn (.plain rfl (oc_bin hB rfl (.tmp rfl) (.tmp rfl) (r := vnum ((b.take (ix7 b + 1)).drop j)) (by rw [hvd]; exact or_add64 hvj.1 (by omega) (by omega)) rfl rfl)) ?_
    refine WL_cons hB.fn (.plain rfl (ox_store hB (.tmp rfl) (.tmp rfl) rfl shp_3 (by first | rfl | exact flat_agI) (by first | exact cells1 rfl | (rw [cells_ag, length_I]; omega) | rfl | (simp <;> fail) | (simp; omega)) (by first | exact Nat.le_refl _ | exact Nat.le_of_ble_eq_true rfl | decide | (simp <;> fail) | (simp; omega)) (by first | exact put_one rfl | exact put_blkI (by first | omega | (simp <;> fail) | (simp; omega)) | exact put_rowI (by first | omega | (simp <;> fail) | (simp; omega)) | rfl) (by first | exact .here | exact .s1 rfl | exact .s2 rfl rfl | exact .s3 rfl rfl rfl | exact .s4 rfl rfl rfl rfl | exact .s5 rfl rfl rfl rfl rfl | exact .s6 rfl rfl rfl rfl rfl rfl | exact .s7 rfl rfl rfl rfl rfl rfl rfl | exact .s8 rfl rfl rfl rfl rfl rfl rfl rfl) rfl)) ?_
    refine WL_nil ?_
    refine rd_n (by rfl) ?_
    refine WL_cons hI1.fn (.plain rfl (oc_not hI1 (.tmp rfl) rfl rfl)) ?_
    refine WL_nil ?_
    refine W_cond rfl (by decide) (fun hc => by cases hc) (fun _ => ?_)
    refine W_skip ?_
    refine W_region ?_
    refine WL_cons hI1.fn (.plain rfl (oc_move hI1 (.tmp rfl) rfl rfl)) ?_
    refine WL_cons hI1.fn (.plain rfl (oc_bin hI1 rfl (.tmp rfl) .cint (by first | exact i64_sub (by omega) | rfl) rfl rfl)) ?_
    refine WL_cons hI1.fn (.plain rfl (oc_assign hI1 (.tmp rfl) rfl rfl)) ?_
    refine WL_nil ?_
    exact ⟨(j), (by omega), (weakK (fun k => k) (.cons rfl (congrArg (AV.i _) (by omega)) trivial (.cons rfl (by first | exact ren_agI | exact ren_vsI | exact ren_free _ _ (by first | exact inSL_I _ | simp)) (by first | exact inSL_I _ | simp) (.cons rfl (by first | rfl | simp) (by show _ < _; decide) (.cons rfl (by first | exact ren_agI | exact ren_vsI | exact ren_free _ _ (by first | exact inSL_I _ | simp)) (by first | exact inSL_I _ | simp) .nil)))) (.cons rfl (Blk.ren_free (by simp) _) rfl (by first | exact inSL_I _ | simp) (.cons rfl rfl rfl (by first | exact inSL_I _ | simp) (.cons rfl (Blk.ren_free (by simp) _) rfl (by first | exact inSL_I _ | simp) .nil))) rfl rfl rfl), (by omega)⟩
  ·
    replace hc := geq_f hc
    obtain rfl : i = 0 := by omega
    rw [List.drop_zero]
    refine W_exit ?_
    refine rq_n (.inl rfl) (by rfl) ?_
    refine W_seq ?_
    refine W_blk ?_
    refine W_seq ?_
    rcases (show ix7 b = 0 ∨ (0 < ix7 b ∧ b.getD (ix7 b) 0 ≠ 0) by omega) with hz2 | hz2
    ·
      refine W_region ?_
      refine wp rfl hC (oc_move hC (.tmp rfl) rfl rfl) ?_
      refine wp rfl hC (ox_cmp hC rfl (.tmp rfl) .cint (r := false) (by simp only [cmpI]; exact decide_eq_false (by omega)) rfl rfl) ?_
      refine wp rfl hC (oc_move hC (.tmp rfl) rfl rfl) ?_
      refine WL_cons hC.fn (.no (s1 := ⟨_, (56, .tu []) :: _, _⟩) rfl rfl (by decide) rfl (by decide) (fun t ht => by cases ht; exact ⟨blt_lt rfl, blt_lt rfl⟩) (fun t => setE_cons _ _ _ _) rfl rfl) ?_
      refine WL_cons hC.fn (.no (s1 := ⟨_, (57, .tu []) :: _, _⟩) rfl rfl (by decide) rfl (by decide) (fun t ht => by cases ht; exact ⟨blt_lt rfl, blt_lt rfl⟩) (fun t => setE_cons _ _ _ _) rfl rfl) ?_
      refine WL_cons hC.fn (.no (s1 := ⟨_, (58, .tu []) :: _, _⟩) rfl rfl (by decide) rfl (by decide) (fun t ht => by cases ht; exact ⟨blt_lt rfl, blt_lt rfl⟩) (fun t => setE_cons _ _ _ _) rfl rfl) ?_
      refine WL_cons hC.fn (.no (s1 := ⟨_, (59, .tu []) :: _, _⟩) rfl rfl (by decide) rfl (by decide) (fun t ht => by cases ht; exact ⟨blt_lt rfl, blt_lt rfl⟩) (fun t => setE_cons _ _ _ _) rfl rfl) ?_
      refine WL_cons hC.fn (.no (s1 := ⟨_, (60, .tu []) :: _, _⟩) rfl rfl (by decide) rfl (by decide) (fun t ht => by cases ht; exact ⟨blt_lt rfl, blt_lt rfl⟩) (fun t => setE_cons _ _ _ _) rfl rfl) ?_
      refine wp rfl hC (ox_pick hC (.tmp rfl) (.tmp rfl) .cbool (by first | exact pick_t | exact pick_f | rfl) rfl rfl) ?_
      refine wp rfl hC (oc_assign hC (.tmp rfl) rfl rfl) ?_
      refine WL_nil ?_
      refine W_cond rfl (by decide) (fun hc => by cases hc) (fun _ => ?_)
      refine W_seq ?_
      rcases hm with hm | hm
      ·
        refine W_region ?_
        refine wp rfl hC (oc_load hC (.tmp rfl) (by first | exact .p rfl | exact .rp) shp_3 (by first | exact unit_one rfl | exact unit_I (by first | omega | (simp <;> fail) | (simp; omega)) | exact unit_c rfl (by decide) | exact unit_c rfl (by simp)) rfl rfl) ?_
        refine wp rfl hC (oc_move hC (.tmp rfl) rfl rfl) ?_
        refine wp rfl hC (ox_cmp hC rfl (.tmp rfl) (.tmp rfl) (r := true) (by simp only [cmpI]; exact decide_eq_true (by omega)) rfl rfl) ?_
        refine wp rfl hC (oc_move hC (.tmp rfl) rfl rfl) ?_
        refine WL_cons hC.fn (.no (s1 := ⟨_, (69, .tu []) :: _, _⟩) rfl rfl (by decide) rfl (by decide) (fun t ht => by cases ht; exact ⟨blt_lt rfl, blt_lt rfl⟩) (fun t => setE_cons _ _ _ _) rfl rfl) ?_
        refine WL_cons hC.fn (.no (s1 := ⟨_, (70, .tu []) :: _, _⟩) rfl rfl (by decide) rfl (by decide) (fun t ht => by cases ht; exact ⟨blt_lt rfl, blt_lt rfl⟩) (fun t => setE_cons _ _ _ _) rfl rfl) ?_
        refine wp rfl hC (ox_pick hC (.tmp rfl) .cbool (.tmp rfl) (by first | exact pick_t | exact pick_f | rfl) rfl rfl) ?_
        refine wp rfl hC (oc_assign hC (.tmp rfl) rfl rfl) ?_
        refine WL_nil ?_
        refine W_cond rfl (by decide) (fun _ => ?_) (fun hc => by cases hc)
        refine wsr ?_
        refine wp rfl hC (oc_move hC (.tmp rfl) rfl rfl) ?_
        refine wp rfl hC (oc_callG (τ := fun k => bif Nat.beq k 0 then 0 else k) (N' := 3) hC .func (.cons (.tmp rfl) (.cons .cint .nil)) (.own (by first | rfl | simp) (.v1 (.free (by first | exact inSL_I _ | simp)) .end)) (fail_c (n - (ix7 b + 1)) (b.drop (ix7 b + 1)) e (by simp [hb]) (fun x hx => hb8 x (List.mem_of_mem_drop hx)) (by omega) 3 3 (.inl ⟨he, rfl⟩)) glob_nil (mr_cons (by first | exact ren_blkI | exact ren_rowI | exact Blk.ren_free (by simp) _ | rfl) rfl mr_nil) (mr_cons (by first | exact ren_blkI | exact ren_rowI | exact Blk.ren_free (by simp) _ | rfl) rfl mr_nil) rfl (rd_cons rfl rd_nil) rfl rfl rfl rfl (by first | exact .inl rfl | exact .inr ⟨by simp, (nv_cons (by first | exact novsL_I _ | simp) nv_nil)⟩) rfl (dst_ok rfl rfl) (fun t => setE_cons _ _ _ _)) ?_
        refine WL_nil ?_
        refine wsr ?_
        refine wp rfl hC (oc_assign hC .cint rfl rfl) ?_
        refine WL_nil ?_
        refine W_ret ?_
        exact finK (fun k => k) (.cons (.tmp rfl) .nil) rfl (wr_cons rfl (Blk.ren_free (by simp) _) wr_nil) rfl rfl
      ·
        refine W_region ?_
        refine wp rfl hC (oc_load hC (.tmp rfl) (by first | exact .p rfl | exact .rp) shp_3 (by first | exact unit_one rfl | exact unit_I (by first | omega | (simp <;> fail) | (simp; omega)) | exact unit_c rfl (by decide) | exact unit_c rfl (by simp)) rfl rfl) ?_
        refine wp rfl hC (oc_move hC (.tmp rfl) rfl rfl) ?_
        refine wp rfl hC (ox_cmp hC rfl (.tmp rfl) (.tmp rfl) (r := false) (by simp only [cmpI]; exact decide_eq_false (by omega)) rfl rfl) ?_
        refine wp rfl hC (oc_move hC (.tmp rfl) rfl rfl) ?_
        refine WL_cons hC.fn (.yes rfl rfl (by decide) rfl (oc_load hC (.tmp rfl) (by first | exact .p rfl | exact .rp) shp_3 (by first | exact unit_one rfl | exact unit_I (by first | omega | (simp <;> fail) | (simp; omega)) | exact unit_c rfl (by decide) | exact unit_c rfl (by simp)) rfl rfl)) ?_
        refine WL_cons hC.fn (.yes rfl rfl (by decide) rfl (ox_cmp hC rfl (.tmp rfl) .cint (r := true) (by simp only [cmpI]; exact decide_eq_true (by omega)) rfl rfl)) ?_
        refine wp rfl hC (ox_pick hC (.tmp rfl) .cbool (.tmp rfl) (by first | exact pick_t | exact pick_f | rfl) rfl rfl) ?_
        refine wp rfl hC (oc_assign hC (.tmp rfl) rfl rfl) ?_
        refine WL_nil ?_
        refine W_cond rfl (by decide) (fun _ => ?_) (fun hc => by cases hc)
        refine wsr ?_
        refine wp rfl hC (oc_move hC (.tmp rfl) rfl rfl) ?_
        refine wp rfl hC (oc_callG (τ := fun k => bif Nat.beq k 0 then 0 else k) (N' := 3) hC .func (.cons (.tmp rfl) (.cons .cint .nil)) (.own (by first | rfl | simp) (.v1 (.free (by first | exact inSL_I _ | simp)) .end)) (fail_c (n - (ix7 b + 1)) (b.drop (ix7 b + 1)) e (by simp [hb]) (fun x hx => hb8 x (List.mem_of_mem_drop hx)) (by omega) 3 3 (.inl ⟨he, rfl⟩)) glob_nil (mr_cons (by first | exact ren_blkI | exact ren_rowI | exact Blk.ren_free (by simp) _ | rfl) rfl mr_nil) (mr_cons (by first | exact ren_blkI | exact ren_rowI | exact Blk.ren_free (by simp) _ | rfl) rfl mr_nil) rfl (rd_cons rfl rd_nil) rfl rfl rfl rfl (by first | exact .inl rfl | exact .inr ⟨by simp, (nv_cons (by first | exact novsL_I _ | simp) nv_nil)⟩) rfl (dst_ok rfl rfl) (fun t => setE_cons _ _ _ _)) ?_
        refine WL_nil ?_
        refine wsr ?_
        refine wp rfl hC (oc_assign hC .cint rfl rfl) ?_
        refine WL_nil ?_
        refine W_ret ?_
        exact finK (fun k => k) (.cons (.tmp rfl) .nil) rfl (wr_cons rfl (Blk.ren_free (by simp) _) wr_nil) rfl rfl
    ·
      refine W_region ?_
      refine wp rfl hC (oc_move hC (.tmp rfl) rfl rfl) ?_
      refine wp rfl hC (ox_cmp hC rfl (.tmp rfl) .cint (r := true) (by simp only [cmpI]; exact decide_eq_true (by omega)) rfl rfl) ?_
      refine wp rfl hC (oc_move hC (.tmp rfl) rfl rfl) ?_
      refine WL_cons hC.fn (.yes rfl rfl (by decide) rfl (oc_move hC (.tmp rfl) rfl rfl)) ?_
      refine WL_cons hC.fn (.yes rfl rfl (by decide) rfl (oc_move hC (.tmp rfl) rfl rfl)) ?_
      refine WL_cons hC.fn (.yes rfl rfl (by decide) rfl (ox_indexS hC  (.tmp rfl) (.tmp rfl) idx_22 (by first | rfl | exact toNat_up (by omega)) (by first | exact Nat.mul_one _ | rfl) (by first | exact .row rfl | exact .sl (Nat.zero_add _) | exact .sl rfl | exact .vs (by first | omega | (simp <;> fail) | (simp; omega))) (by first | omega | (simp <;> fail) | (simp; omega)) rfl rfl)) ?_
      refine WL_cons hC.fn (.yes rfl rfl (by decide) rfl (oc_load hC (.tmp rfl) (by first | exact .p rfl | exact .rp) shp_5 (by exact (unit_I (by first | omega | (simp <;> fail) | (simp; omega)))) rfl rfl)) ?_
      refine WL_cons hC.fn (.yes rfl rfl (by decide) rfl (ox_cmp hC rfl (.tmp rfl) .cint (r := false) (by rw [hxa]; simp only [cmpI]; exact decide_eq_false hz2.2) rfl rfl)) ?_
      refine wp rfl hC (ox_pick hC (.tmp rfl) (.tmp rfl) .cbool (by first | exact pick_t | exact pick_f | rfl) rfl rfl) ?_
      refine wp rfl hC (oc_assign hC (.tmp rfl) rfl rfl) ?_
      refine WL_nil ?_
      refine W_cond rfl (by decide) (fun hc => by cases hc) (fun _ => ?_)
      refine W_seq ?_
      rcases hm with hm | hm
      ·
        refine W_region ?_
        refine wp rfl hC (oc_load hC (.tmp rfl) (by first | exact .p rfl | exact .rp) shp_3 (by first | exact unit_one rfl | exact unit_I (by first | omega | (simp <;> fail) | (simp; omega)) | exact unit_c rfl (by decide) | exact unit_c rfl (by simp)) rfl rfl) ?_
        refine wp rfl hC (oc_move hC (.tmp rfl) rfl rfl) ?_
        refine wp rfl hC (ox_cmp hC rfl (.tmp rfl) (.tmp rfl) (r := true) (by simp only [cmpI]; exact decide_eq_true (by omega)) rfl rfl) ?_
        refine wp rfl hC (oc_move hC (.tmp rfl) rfl rfl) ?_
        refine WL_cons hC.fn (.no (s1 := ⟨_, (69, .tu []) :: _, _⟩) rfl rfl (by decide) rfl (by decide) (fun t ht => by cases ht; exact ⟨blt_lt rfl, blt_lt rfl⟩) (fun t => setE_cons _ _ _ _) rfl rfl) ?_
        refine WL_cons hC.fn (.no (s1 := ⟨_, (70, .tu []) :: _, _⟩) rfl rfl (by decide) rfl (by decide) (fun t ht => by cases ht; exact ⟨blt_lt rfl, blt_lt rfl⟩) (fun t => setE_cons _ _ _ _) rfl rfl) ?_
        refine wp rfl hC (ox_pick hC (.tmp rfl) .cbool (.tmp rfl) (by first | exact pick_t | exact pick_f | rfl) rfl rfl) ?_
        refine wp rfl hC (oc_assign hC (.tmp rfl) rfl rfl) ?_
        refine WL_nil ?_
        refine W_cond rfl (by decide) (fun _ => ?_) (fun hc => by cases hc)
        refine wsr ?_
        refine wp rfl hC (oc_move hC (.tmp rfl) rfl rfl) ?_
        refine wp rfl hC (oc_callG (τ := fun k => bif Nat.beq k 0 then 0 else k) (N' := 3) hC .func (.cons (.tmp rfl) (.cons .cint .nil)) (.own (by first | rfl | simp) (.v1 (.free (by first | exact inSL_I _ | simp)) .end)) (fail_c (n - (ix7 b + 1)) (b.drop (ix7 b + 1)) e (by simp [hb]) (fun x hx => hb8 x (List.mem_of_mem_drop hx)) (by omega) 3 3 (.inl ⟨he, rfl⟩)) glob_nil (mr_cons (by first | exact ren_blkI | exact ren_rowI | exact Blk.ren_free (by simp) _ | rfl) rfl mr_nil) (mr_cons (by first | exact ren_blkI | exact ren_rowI | exact Blk.ren_free (by simp) _ | rfl) rfl mr_nil) rfl (rd_cons rfl rd_nil) rfl rfl rfl rfl (by first | exact .inl rfl | exact .inr ⟨by simp, (nv_cons (by first | exact novsL_I _ | simp) nv_nil)⟩) rfl (dst_ok rfl rfl) (fun t => setE_cons _ _ _ _)) ?_
        refine WL_nil ?_
        refine wsr ?_
        refine wp rfl hC (oc_assign hC .cint rfl rfl) ?_
        refine WL_nil ?_
        refine W_ret ?_
        exact finK (fun k => k) (.cons (.tmp rfl) .nil) rfl (wr_cons rfl (Blk.ren_free (by simp) _) wr_nil) rfl rfl
      ·
        refine W_region ?_
        refine wp rfl hC (oc_load hC (.tmp rfl) (by first | exact .p rfl | exact .rp) shp_3 (by first | exact unit_one rfl | exact unit_I (by first | omega | (simp <;> fail) | (simp; omega)) | exact unit_c rfl (by decide) | exact unit_c rfl (by simp)) rfl rfl) ?_
        refine wp rfl hC (oc_move hC (.tmp rfl) rfl rfl) ?_
        refine wp rfl hC (ox_cmp hC rfl (.tmp rfl) (.tmp rfl) (r := false) (by simp only [cmpI]; exact decide_eq_false (by omega)) rfl rfl) ?_
        refine wp rfl hC (oc_move hC (.tmp rfl) rfl rfl) ?_
        refine WL_cons hC.fn (.yes rfl rfl (by decide) rfl (oc_load hC (.tmp rfl) (by first | exact .p rfl | exact .rp) shp_3 (by first | exact unit_one rfl | exact unit_I (by first | omega | (simp <;> fail) | (simp; omega)) | exact unit_c rfl (by decide) | exact unit_c rfl (by simp)) rfl rfl)) ?_
        refine WL_cons hC.fn (.yes rfl rfl (by decide) rfl (ox_cmp hC rfl (.tmp rfl) .cint (r := true) (by simp only [cmpI]; exact decide_eq_true (by omega)) rfl rfl)) ?_
        refine wp rfl hC (ox_pick hC (.tmp rfl) .cbool (.tmp rfl) (by first | exact pick_t | exact pick_f | rfl) rfl rfl) ?_
        refine wp rfl hC (oc_assign hC (.tmp rfl) rfl rfl) ?_
        refine WL_nil ?_
        refine W_cond rfl (by decide) (fun _ => ?_) (fun hc => by cases hc)
        refine wsr ?_
        refine wp rfl hC (oc_move hC (.tmp rfl) rfl rfl) ?_
        refine wp rfl hC (oc_callG (τ := fun k => bif Nat.beq k 0 then 0 else k) (N' := 3) hC .func (.cons (.tmp rfl) (.cons .cint .nil)) (.own (by first | rfl | simp) (.v1 (.free (by first | exact inSL_I _ | simp)) .end)) (fail_c (n - (ix7 b + 1)) (b.drop (ix7 b + 1)) e (by simp [hb]) (fun x hx => hb8 x (List.mem_of_mem_drop hx)) (by omega) 3 3 (.inl ⟨he, rfl⟩)) glob_nil (mr_cons (by first | exact ren_blkI | exact ren_rowI | exact Blk.ren_free (by simp) _ | rfl) rfl mr_nil) (mr_cons (by first | exact ren_blkI | exact ren_rowI | exact Blk.ren_free (by simp) _ | rfl) rfl mr_nil) rfl (rd_cons rfl rd_nil) rfl rfl rfl rfl (by first | exact .inl rfl | exact .inr ⟨by simp, (nv_cons (by first | exact novsL_I _ | simp) nv_nil)⟩) rfl (dst_ok rfl rfl) (fun t => setE_cons _ _ _ _)) ?_
        refine WL_nil ?_
        refine wsr ?_
        refine wp rfl hC (oc_assign hC .cint rfl rfl) ?_
        refine WL_nil ?_
        refine W_ret ?_
        exact finK (fun k => k) (.cons (.tmp rfl) .nil) rfl (wr_cons rfl (Blk.ren_free (by simp) _) wr_nil) rfl rfl
set_option maxRecDepth 20000 in
set_option maxHeartbeats 4000000 in
theorem num_c (n : Nat) (b : List Int) (e : Int) (hb : b.length = n) (hb8 : B8 b) (hl : n ≤ 1099511627776) (most : Int) (he : e = 0) (h : ix7 b < n) (h6 : ix7 b < 6) (hz : ix7 b = 0 ∨ b.getD (ix7 b) 0 ≠ 0) (hm : vnum (b.take (ix7 b + 1)) ≤ most ∧ vnum (b.take (ix7 b + 1)) ≤ 1099511627775) : FnC Tryd.prog 35 [] [.p 0 0, .i .i64 most] [(0, .blk 73 [.vs n (I .u8 b), .i .i64 e])] [(0, .blk 73 [.vs (n - (ix7 b + 1)) (I .u8 (b.drop (ix7 b + 1))), .i .i64 e])] (.i .i64 (vnum (b.take (ix7 b + 1)))) := by
  have hix := ix7_le b
  have hlo : lastOf b = (ix7 b : Int) := by unfold lastOf; rw [if_pos (by omega)]
  have hx8 : B8 (b.take (ix7 b + 1)) := fun x hx => hb8 x (List.mem_of_mem_take hx)
  have hxl : (b.take (ix7 b + 1)).length = ix7 b + 1 := by rw [List.length_take]; omega
  have hve : vnum ((b.take (ix7 b + 1)).drop (ix7 b + 1)) = 0 := by
    have h0 := vnum_end (l := (b.take (ix7 b + 1)))
    rwa [hxl] at h0
  have hxa : (b.take (ix7 b + 1)).getD (ix7 b) 0 = b.getD (ix7 b) 0 := take_get (by omega)
  have hvx := vnum_lt (l := (b.take (ix7 b + 1))) (by omega)
  refine FnC.introR (N0 := 1) (T := 75) (E := [(0, .p 0 0), (1, .i .i64 most)]) Tryd.func35 rfl (by decide) mix rfl rfl rfl (by simp) rfl ⟨(by first | exact inSL_I _ | trivial | simp), (by first | exact inSL_I _ | trivial | simp), trivial⟩ (by intro k b hm; simp only [List.mem_cons, Prod.mk.injEq, List.not_mem_nil, or_false] at hm; rcases hm with ⟨rfl, rfl⟩ <;> exact ⟨by decide, by first | exact inSL_I _ | simp⟩) (by
        intro S ha hr hw
        have s0 : S 0 := (hr 0 _ List.mem_cons_self).1
        refine ⟨by first | exact inSL_I _ | simp [s0], fun k b hm => ?_⟩
        simp only [List.mem_cons, Prod.mk.injEq, List.not_mem_nil, or_false] at hm
        rcases hm with ⟨rfl, rfl⟩
        · exact ⟨s0, by first | exact inSL_I _ | simp [s0]⟩) (fun F n0 X w ρ hC hro => ?_)
  refine wsr ?_
  refine wp rfl hC (oc_assign hC .cint rfl rfl) ?_
  refine WL_nil ?_
  refine W_seq ?_
  refine wsr ?_
  refine wp rfl hC (oc_move hC (.tmp rfl) rfl rfl) ?_
  refine wp rfl hC (oc_callG (τ := fun k => bif Nat.beq k 0 then 0 else k) (N' := 1) hC .func (.cons (.tmp rfl) .nil) (.own (by first | rfl | simp) .end) (err_c n b e hb hb8 hl) glob_nil (mr_cons (by first | exact ren_blkI | exact ren_rowI | exact Blk.ren_free (by simp) _ | rfl) rfl mr_nil) (mr_cons (by first | exact ren_blkI | exact ren_rowI | exact Blk.ren_free (by simp) _ | rfl) rfl mr_nil) rfl (rd_cons rfl rd_nil) rfl rfl rfl rfl (by first | exact .inl rfl | exact .inr ⟨by simp, (nv_cons (by first | exact novsL_I _ | simp) nv_nil)⟩) rfl (dst_ok rfl rfl) (fun t => setE_cons _ _ _ _)) ?_
  refine wp rfl hC (ox_cmp hC rfl (.tmp rfl) .cint (r := false) (by simp only [cmpI]; exact decide_eq_false (by omega)) rfl rfl) ?_
  refine WL_nil ?_
  refine W_cond rfl (by decide) (fun hc => by cases hc) (fun _ => ?_)
  refine W_skip ?_
  refine wsr ?_
  refine wp rfl hC (oc_move hC (.tmp rfl) rfl rfl) ?_
  refine wp rfl hC (oc_nilCheck hC (.tmp rfl) rfl rfl) ?_
  refine wp rfl hC (oc_field hC (.tmp rfl) fld_73_0 (by decide) (by first | exact .p (Nat.zero_add _) | exact .p rfl | exact .rp (by decide)) rfl rfl) ?_
  refine wp rfl hC (oc_load hC (.tmp rfl) (by first | exact .p rfl | exact .rp) shp_22 (by first | exact unit_one rfl | exact unit_I (by first | omega | (simp <;> fail) | (simp; omega)) | exact unit_c rfl (by decide) | exact unit_c rfl (by simp)) rfl rfl) ?_
  refine wp rfl hC (oc_call hC (.cons (.tmp rfl) (.cons .func .nil)) (.cons1 (by first | exact .free (by first | exact inSL_I _ | simp) | exact .row rfl rfl (by first | exact inSL_I _ | simp) | exact .nils | exact .sl1 rfl (by first | exact cut_I | rfl) (by first | exact inSL_I _ | simp)) (.cons1 (.free (by first | exact inSL_I _ | simp)) (.same (by first | exact inSL_I _ | simp)))) (index_c n b hb hl) glob_nil (by first | exact inSL_I _ | simp) (by first | exact .inl rfl | exact .inr (by simp)) rfl rfl) ?_
  rw [hlo]
  refine wp rfl hC (oc_assign hC (.tmp rfl) rfl rfl) ?_
  refine WL_nil ?_
  refine W_seq ?_
  refine wsr ?_
  refine wp rfl hC (oc_move hC (.tmp rfl) rfl rfl) ?_
  refine wp rfl hC (ox_cmp hC rfl (.tmp rfl) .cint (r := false) (by simp only [cmpI]; exact decide_eq_false (by omega)) rfl rfl) ?_
  refine wp rfl hC (oc_move hC (.tmp rfl) rfl rfl) ?_
  refine WL_cons hC.fn (.yes rfl rfl (by decide) rfl (oc_move hC (.tmp rfl) rfl rfl)) ?_
  refine WL_cons hC.fn (.yes rfl rfl (by decide) rfl (ox_cmp hC rfl (.tmp rfl) .cint (r := false) (by simp only [cmpI]; exact decide_eq_false (by omega)) rfl rfl)) ?_
  refine WL_cons hC.fn (.yes rfl rfl (by decide) rfl (oc_move hC (.tmp rfl) rfl rfl)) ?_
  refine WL_cons hC.fn (.no (s1 := ⟨_, (24, .tu []) :: _, _⟩) rfl rfl (by decide) rfl (by decide) (fun t ht => by cases ht; exact ⟨blt_lt rfl, blt_lt rfl⟩) (fun t => setE_cons _ _ _ _) rfl rfl) ?_
  refine WL_cons hC.fn (.no (s1 := ⟨_, (25, .tu []) :: _, _⟩) rfl rfl (by decide) rfl (by decide) (fun t ht => by cases ht; exact ⟨blt_lt rfl, blt_lt rfl⟩) (fun t => setE_cons _ _ _ _) rfl rfl) ?_
  refine WL_cons hC.fn (.no (s1 := ⟨_, (26, .tu []) :: _, _⟩) rfl rfl (by decide) rfl (by decide) (fun t ht => by cases ht; exact ⟨blt_lt rfl, blt_lt rfl⟩) (fun t => setE_cons _ _ _ _) rfl rfl) ?_
  refine WL_cons hC.fn (.no (s1 := ⟨_, (27, .tu []) :: _, _⟩) rfl rfl (by decide) rfl (by decide) (fun t ht => by cases ht; exact ⟨blt_lt rfl, blt_lt rfl⟩) (fun t => setE_cons _ _ _ _) rfl rfl) ?_
  refine WL_cons hC.fn (.no (s1 := ⟨_, (28, .tu []) :: _, _⟩) rfl rfl (by decide) rfl (by decide) (fun t ht => by cases ht; exact ⟨blt_lt rfl, blt_lt rfl⟩) (fun t => setE_cons _ _ _ _) rfl rfl) ?_
  refine WL_cons hC.fn (.no (s1 := ⟨_, (29, .tu []) :: _, _⟩) rfl rfl (by decide) rfl (by decide) (fun t ht => by cases ht; exact ⟨blt_lt rfl, blt_lt rfl⟩) (fun t => setE_cons _ _ _ _) rfl rfl) ?_
  refine WL_cons hC.fn (.yes rfl rfl (by decide) rfl (ox_pick hC (.tmp rfl) (.tmp rfl) .cbool (by first | exact pick_t | exact pick_f | rfl) rfl rfl)) ?_
  refine wp rfl hC (ox_pick hC (.tmp rfl) .cbool (.tmp rfl) (by first | exact pick_t | exact pick_f | rfl) rfl rfl) ?_
  refine WL_nil ?_
  refine W_cond rfl (by decide) (fun hc => by cases hc) (fun _ => ?_)
  refine W_skip ?_
  refine W_seq ?_
  refine wsr ?_
  refine wp rfl hC (oc_move hC (.tmp rfl) rfl rfl) ?_
  refine wp rfl hC (ox_cmp hC rfl (.tmp rfl) .cint (r := false) (by simp only [cmpI]; exact decide_eq_false (by omega)) rfl rfl) ?_
  refine WL_nil ?_
  refine W_cond rfl (by decide) (fun hc => by cases hc) (fun _ => ?_)
  refine W_skip ?_
  refine wsr ?_
  refine wp rfl hC (ox_alloc hC zero_3 rfl rfl rfl) ?_
  refine wp rfl hC (ox_store hC (.tmp rfl) .cint rfl shp_3 (by first | rfl | exact flat_agI) (by first | exact cells1 rfl | (rw [cells_ag, length_I]; omega) | rfl | (simp <;> fail) | (simp; omega)) (by first | exact Nat.le_refl _ | exact Nat.le_of_ble_eq_true rfl | decide | (simp <;> fail) | (simp; omega)) (by first | exact put_one rfl | exact put_blkI (by first | omega | (simp <;> fail) | (simp; omega)) | exact put_rowI (by first | omega | (simp <;> fail) | (simp; omega)) | rfl) (by first | exact .here | exact .s1 rfl | exact .s2 rfl rfl | exact .s3 rfl rfl rfl | exact .s4 rfl rfl rfl rfl | exact .s5 rfl rfl rfl rfl rfl | exact .s6 rfl rfl rfl rfl rfl rfl | exact .s7 rfl rfl rfl rfl rfl rfl rfl | exact .s8 rfl rfl rfl rfl rfl rfl rfl rfl) rfl) ?_
  refine WL_nil ?_
  refine wsr ?_
  refine wp rfl hC (oc_move hC (.tmp rfl) rfl rfl) ?_
  refine wp rfl hC (oc_move hC (.tmp rfl) rfl rfl) ?_
  refine wp rfl hC (oc_bin hC rfl (.tmp rfl) .cint (by first | exact i64_add (by omega) | rfl) rfl rfl) ?_
  refine wp rfl hC (oc_callG (τ := fun k => bif Nat.beq k 0 then 0 else k) (N' := 2) hC .func (.cons (.tmp rfl) (.cons (.tmp rfl) .nil)) (.own (by first | rfl | simp) (.v1 (.free (by first | exact inSL_I _ | simp)) .end)) (take_c n b e hb hb8 hl (ix7 b + 1) he (by omega)) glob_nil (mr_cons (by first | exact ren_blkI | exact ren_rowI | exact Blk.ren_free (by simp) _ | rfl) rfl mr_nil) (mr_cons (by first | exact ren_blkI | exact ren_rowI | exact Blk.ren_free (by simp) _ | rfl) rfl mr_nil) ren_vsI (rd_cons rfl rd_nil) rfl rfl rfl rfl (by first | exact .inl rfl | exact .inr ⟨by simp, (nv_cons (by first | exact novsL_I _ | simp) nv_nil)⟩) rfl (dst_ok rfl rfl) (fun t => setE_cons _ _ _ _)) ?_
  refine wp rfl hC (oc_assign hC (.tmp rfl) rfl rfl) ?_
  refine WL_nil ?_
  refine W_seq ?_
  refine wsr ?_
  refine wp rfl hC (oc_move hC (.tmp rfl) rfl rfl) ?_
  refine wp rfl hC (oc_callG (v' := .f 45 [.p 2 0]) (τ := fun k => bif Nat.beq k 0 then 2 else k) (N' := 3) hC .func (.cons (.tmp rfl) .nil) (.v1 (by first | exact .free (by first | exact inSL_I _ | simp) | exact .row rfl rfl (by first | exact inSL_I _ | simp) | exact .nils | exact .sl1 rfl (by first | exact cut_I | rfl) (by first | exact inSL_I _ | simp)) .end) (backward_c (ix7 b + 1) (b.take (ix7 b + 1))) glob_nil mr_nil (mr_cons (by first | exact ren_blkI | exact ren_rowI | exact Blk.ren_free (by simp) _ | rfl) rfl mr_nil) rfl rd_nil rfl rfl rfl rfl (by first | exact .inl rfl | exact .inr ⟨by simp, (nv_cons (by first | exact novsL_I _ | simp) nv_nil)⟩) rfl (dst_ok rfl rfl) (fun t => setE_cons _ _ _ _)) ?_
  refine WL_nil ?_
  refine W_blk ?_
  refine W_range (T := 19) (G := []) [0, 1, 2] hC hro rfl rfl rfl rfl Tryd.func45 rfl rfl (by decide) rfl rfl rfl glob_nil rfl (by simp) (fun k hk => by first | exact absurd hk (Nat.not_lt_zero _) | (have hk2 : k < 1 := hk; have : k = 0 ∨ k = 1 ∨ k = 2 ∨ k = 3 := (by omega); rcases this with rfl | rfl | rfl | rfl <;> first | decide | omega)) (by show ∀ k ∈ _, k < 3; decide) (fun ρ1 w1 H1 l1 r1 hI1 hR1 => ?_)
  refine wsr ?_
  refine WL_cons hI1.fn (.plain rfl (oc_load hI1 (.tmp rfl) (by first | exact .p rfl | exact .rp) shp_22 (by first | exact unit_one rfl | exact unit_I (by first | omega | (simp <;> fail) | (simp; omega)) | exact unit_c rfl (by decide) | exact unit_c rfl (by simp)) rfl rfl)) ?_
  refine WL_cons hI1.fn (.plain rfl (ox_len hI1 (.tmp rfl) (by first | exact .row rfl | exact .vs | exact .sl rfl | exact .nils) Tryd.underlying22 rfl rfl rfl)) ?_
  refine WL_cons hI1.fn (.plain rfl (oc_bin hI1 rfl (.tmp rfl) .cint (by first | exact i64_sub (by omega) | rfl) rfl rfl)) ?_
  refine WL_cons hI1.fn (.plain rfl (oc_assign hI1 (.tmp rfl) rfl rfl)) ?_
  refine WL_nil ?_
  refine W_blk ?_
  refine W_loopW (fun (ζ : Nat) => ⟨3, [(3, .i .i64 ((ζ : Int) - 1)), (0, .f (1000000000 + l1) []), (1, .p 2 0), (5000000, .rp [])], [(0, .blk 73 [.vs (n - (ix7 b + 1)) (I .u8 (b.drop (ix7 b + 1))), .i .i64 e]), (1, .blk 3 [.i .i64 (vnum ((b.take (ix7 b + 1)).drop ζ))]), (2, .blk 22 [.vs (ix7 b + 1) (I .u8 (b.take (ix7 b + 1)))])]⟩) (fun ζ => ζ ≤ ix7 b + 1) (fun ζ => ζ) ((ix7 b + 1)) (Nat.le_refl _) (weakK (fun k => k) (.cons rfl (congrArg (AV.i _) (by omega)) trivial (.cons rfl (by first | exact ren_agI | exact ren_vsI | exact ren_free _ _ (by first | exact inSL_I _ | simp)) (by first | exact inSL_I _ | simp) (.cons rfl (by first | rfl | simp) (by show _ < _; decide) (.cons rfl (by first | exact ren_agI | exact ren_vsI | exact ren_free _ _ (by first | exact inSL_I _ | simp)) (by first | exact inSL_I _ | simp) .nil)))) (.cons rfl (Blk.ren_free (by simp) _) rfl (by first | exact inSL_I _ | simp) (.cons rfl (by rw [hve]; rfl) rfl (by first | exact inSL_I _ | simp) (.cons rfl (Blk.ren_free (by simp) _) rfl (by first | exact inSL_I _ | simp) .nil))) rfl rfl rfl) ?_
  intro i hR
  replace hR : i ≤ ix7 b + 1 := hR
  first | show W _ _ _ ⟨3, [(3, .i .i64 ((i : Int) - 1)), (0, .f (1000000000 + l1) []), (1, .p 2 0), (5000000, .rp [])], [(0, .blk 73 [.vs (n - (ix7 b + 1)) (I .u8 (b.drop (ix7 b + 1))), .i .i64 e]), (1, .blk 3 [.i .i64 (vnum ((b.take (ix7 b + 1)).drop i))]), (2, .blk 22 [.vs (ix7 b + 1) (I .u8 (b.take (ix7 b + 1)))])]⟩ | skip
  refine W_seq ?_
  refine wsr ?_
  refine WL_cons hI1.fn (.plain rfl (oc_move hI1 (.tmp rfl) rfl rfl)) ?_
  refine WL_cons hI1.fn (.plain rfl (ox_cmp hI1 rfl (.tmp rfl) .cint rfl rfl rfl)) ?_
  refine WL_nil ?_
  refine W_cond rfl (by decide) (fun hc => ?_) (fun hc => ?_)
  ·
    replace hc := geq_t hc
    obtain ⟨j, rfl⟩ : ∃ j, i = j + 1 := ⟨i - 1, by omega⟩
    have hxj := hx8.get j
    have hvj := vnum_lt (l := (b.take (ix7 b + 1)).drop (j + 1)) (by rw [List.length_drop, hxl]; omega)
    have hvd := vnum_drop (l := (b.take (ix7 b + 1))) (i := j) (by omega)
    refine W_skip ?_
    refine W_seq ?_
    refine W_blk ?_
    refine wsr ?_
    refine WL_cons hI1.fn (.plain rfl (oc_move hI1 (.tmp rfl) rfl rfl)) ?_
    refine WL_cons hI1.fn (.plain rfl (oc_move hI1 (.tmp rfl) rfl rfl)) ?_
    refine WL_cons hI1.fn (.plain rfl (oc_load hI1 (.tmp rfl) (by first | exact .p rfl | exact .rp) shp_22 (by first | exact unit_one rfl | exact unit_I (by first | omega | (simp <;> fail) | (simp; omega)) | exact unit_c rfl (by decide) | exact unit_c rfl (by simp)) rfl rfl)) ?_
    refine WL_cons hI1.fn (.plain rfl (oc_move hI1 (.tmp rfl) rfl rfl)) ?_
    refine WL_cons hI1.fn (.plain rfl (ox_indexS hI1 (j := j) (.tmp rfl) (.tmp rfl) idx_22 (by omega) (by first | exact Nat.mul_one _ | rfl) (by first | exact .row rfl | exact .sl (Nat.zero_add _) | exact .sl rfl | exact .vs (by first | omega | (simp <;> fail) | (simp; omega))) (by first | omega | (simp <;> fail) | (simp; omega)) rfl rfl)) ?_
    refine WL_cons hI1.fn (.plain rfl (oc_load hI1 (.tmp rfl) (by first | exact .p rfl | exact .rp) shp_5 (by exact (unit_I (by first | omega | (simp <;> fail) | (simp; omega)))) rfl rfl)) ?_
    refine WL_yield [0, 1, 2] hR1 hI1 rfl rfl (.cons (.tmp rfl) (.cons (.tmp rfl) .nil)) rfl rfl rfl rfl rfl rfl (by decide) (by simp) (by show ∀ k ∈ _, k < 3; decide) (fun ρb wb Hb hB => ?_)
    refine W_region ?_
    refine WL_cons hB.fn (.plain rfl (oc_assign hB (.tmp rfl) rfl rfl)) ?_
    refine WL_nil ?_
    refine ⟨rfl, ?_⟩
    refine W_blk ?_
    refine W_region ?_
    refine WL_cons hB.fn (.plain rfl (oc_load hB (.tmp rfl) (by first | exact .p rfl | exact .rp) shp_3 (by first | exact unit_one rfl | exact unit_I (by first | omega | (simp <;> fail) | (simp; omega)) | exact unit_c rfl (by decide) | exact unit_c rfl (by simp)) rfl rfl)) ?_
    refine WL_cons hB.fn (.plain rfl (oc_shift hB (.inl rfl) (.tmp rfl) .cint (by first | decide | omega) (r := vnum ((b.take (ix7 b + 1)).drop (j + 1)) * 128) (by rw [show (7 : Int) = ((7 : Nat) : Int) from rfl, shl_n (n := 7) rfl (by decide), show (2 : Int) ^ 7 = 128 by decide]; exact i64_conv (by omega)) rfl rfl)) ?_
    refine WL_cons hB.fn (.plain rfl (oc_move hB (.tmp rfl) rfl rfl)) ?_
    refine WL_cons hB.fn (.plain rfl (oc_bin hB rfl (.tmp rfl) .cint (r := (b.take (ix7 b + 1)).getD j 0 % 128) (and_127 hxj) rfl rfl)) ?_
    refine WL_cons hB.fn (.plain rfl (oc_conv hB (.tmp rfl) rfl Tryd.underlying3 (by first | exact i64_conv (by omega) | rfl) rfl rfl)) ?_
    refine WL_cons hB.fn (.plain rfl (oc_bin hB rfl (.tmp rfl) (.tmp rfl) (r := vnum ((b.take (ix7 b + 1)).drop j)) (by rw [hvd]; exact or_add64 hvj.1 (by omega) (by omega)) rfl rfl)) ?_
    refine WL_cons hB.fn (.plain rfl (ox_store hB (.tmp rfl) (.tmp rfl) rfl shp_3 (by first | rfl | exact flat_agI) (by first | exact cells1 rfl | (rw [cells_ag, length_I]; omega) | rfl | (simp <;> fail) | (simp; omega)) (by first | exact Nat.le_refl _ | exact Nat.le_of_ble_eq_true rfl | decide | (simp <;> fail) | (simp; omega)) (by first | exact put_one rfl | exact put_blkI (by first | omega | (simp <;> fail) | (simp; omega)) | exact put_rowI (by first | omega | (simp <;> fail) | (simp; omega)) | rfl) (by first | exact .here | exact .s1 rfl | exact .s2 rfl rfl | exact .s3 rfl rfl rfl | exact .s4 rfl rfl rfl rfl | exact .s5 rfl rfl rfl rfl rfl | exact .s6 rfl rfl rfl rfl rfl rfl | exact .s7 rfl rfl rfl rfl rfl rfl rfl | exact .s8 rfl rfl rfl rfl rfl rfl rfl rfl) rfl)) ?_
    refine WL_nil ?_
    refine rd_n (by rfl) ?_
    refine WL_cons hI1.fn (.plain rfl (oc_not hI1 (.tmp rfl) rfl rfl)) ?_
    refine WL_nil ?_
    refine W_cond rfl (by decide) (fun hc => by cases hc) (fun _ => ?_)
    refine W_skip ?_
    refine W_region ?_
    refine WL_cons hI1.fn (.plain rfl (oc_move hI1 (.tmp rfl) rfl rfl)) ?_
    refine WL_cons hI1.fn (.plain rfl (oc_bin hI1 rfl (.tmp rfl) .cint (by first | exact i64_sub (by omega) | rfl) rfl rfl)) ?_
    refine WL_cons hI1.fn (.plain rfl (oc_assign hI1 (.tmp rfl) rfl rfl)) ?_
    refine WL_nil ?_
    exact ⟨(j), (by omega), (weakK (fun k => k) (.cons rfl (congrArg (AV.i _) (by omega)) trivial (.cons rfl (by first | exact ren_agI | exact ren_vsI | exact ren_free _ _ (by first | exact inSL_I _ | simp)) (by first | exact inSL_I _ | simp) (.cons rfl (by first | rfl | simp) (by show _ < _; decide) (.cons rfl (by first | exact ren_agI | exact ren_vsI | exact ren_free _ _ (by first | exact inSL_I _ | simp)) (by first | exact inSL_I _ | simp) .nil)))) (.cons rfl (Blk.ren_free (by simp) _) rfl (by first | exact inSL_I _ | simp) (.cons rfl rfl rfl (by first | exact inSL_I _ | simp) (.cons rfl (Blk.ren_free (by simp) _) rfl (by first | exact inSL_I _ | simp) .nil))) rfl rfl rfl), (by omega)⟩
  ·
    replace hc := geq_f hc
    obtain rfl : i = 0 := by omega
    rw [List.drop_zero]
    refine W_exit ?_
    refine rq_n (.inl rfl) (by rfl) ?_
    refine W_seq ?_
    refine W_blk ?_
    refine W_seq ?_
    rcases (show ix7 b = 0 ∨ (0 < ix7 b ∧ b.getD (ix7 b) 0 ≠ 0) by omega) with hz2 | hz2
    ·
      refine W_region ?_
      refine wp rfl hC (oc_move hC (.tmp rfl) rfl rfl) ?_
      refine wp rfl hC (ox_cmp hC rfl (.tmp rfl) .cint (r := false) (by simp only [cmpI]; exact decide_eq_false (by omega)) rfl rfl) ?_
      refine wp rfl hC (oc_move hC (.tmp rfl) rfl rfl) ?_
      refine WL_cons hC.fn (.no (s1 := ⟨_, (56, .tu []) :: _, _⟩) rfl rfl (by decide) rfl (by decide) (fun t ht => by cases ht; exact ⟨blt_lt rfl, blt_lt rfl⟩) (fun t => setE_cons _ _ _ _) rfl rfl) ?_
      refine WL_cons hC.fn (.no (s1 := ⟨_, (57, .tu []) :: _, _⟩) rfl rfl (by decide) rfl (by decide) (fun t ht => by cases ht; exact ⟨blt_lt rfl, blt_lt rfl⟩) (fun t => setE_cons _ _ _ _) rfl rfl) ?_
      refine WL_cons hC.fn (.no (s1 := ⟨_, (58, .tu []) :: _, _⟩) rfl rfl (by decide) rfl (by decide) (fun t ht => by cases ht; exact ⟨blt_lt rfl, blt_lt rfl⟩) (fun t => setE_cons _ _ _ _) rfl rfl) ?_
      refine WL_cons hC.fn (.no (s1 := ⟨_, (59, .tu []) :: _, _⟩) rfl rfl (by decide) rfl (by decide) (fun t ht => by cases ht; exact ⟨blt_lt rfl, blt_lt rfl⟩) (fun t => setE_cons _ _ _ _) rfl rfl) ?_
      refine WL_cons hC.fn (.no (s1 := ⟨_, (60, .tu []) :: _, _⟩) rfl rfl (by decide) rfl (by decide) (fun t ht => by cases ht; exact ⟨blt_lt rfl, blt_lt rfl⟩) (fun t => setE_cons _ _ _ _) rfl rfl) ?_
      refine wp rfl hC (ox_pick hC (.tmp rfl) (.tmp rfl) .cbool (by first | exact pick_t | exact pick_f | rfl) rfl rfl) ?_
      refine wp rfl hC (oc_assign hC (.tmp rfl) rfl rfl) ?_
      refine WL_nil ?_
      refine W_cond rfl (by decide) (fun hc => by cases hc) (fun _ => ?_)
      refine wsr ?_
      refine wp rfl hC (oc_load hC (.tmp rfl) (by first | exact .p rfl | exact .rp) shp_3 (by first | exact unit_one rfl | exact unit_I (by first | omega | (simp <;> fail) | (simp; omega)) | exact unit_c rfl (by decide) | exact unit_c rfl (by simp)) rfl rfl) ?_
      refine wp rfl hC (oc_move hC (.tmp rfl) rfl rfl) ?_
      refine wp rfl hC (ox_cmp hC rfl (.tmp rfl) (.tmp rfl) (r := false) (by simp only [cmpI]; exact decide_eq_false (by omega)) rfl rfl) ?_
      refine wp rfl hC (oc_move hC (.tmp rfl) rfl rfl) ?_
      refine WL_cons hC.fn (.yes rfl rfl (by decide) rfl (oc_load hC (.tmp rfl) (by first | exact .p rfl | exact .rp) shp_3 (by first | exact unit_one rfl | exact unit_I (by first | omega | (simp <;> fail) | (simp; omega)) | exact unit_c rfl (by decide) | exact unit_c rfl (by simp)) rfl rfl)) ?_
      refine WL_cons hC.fn (.yes rfl rfl (by decide) rfl (ox_cmp hC rfl (.tmp rfl) .cint (r := false) (by simp only [cmpI]; exact decide_eq_false (by omega)) rfl rfl)) ?_
      refine wp rfl hC (ox_pick hC (.tmp rfl) .cbool (.tmp rfl) (by first | exact pick_t | exact pick_f | rfl) rfl rfl) ?_
      refine wp rfl hC (oc_assign hC (.tmp rfl) rfl rfl) ?_
      refine WL_nil ?_
      refine W_cond rfl (by decide) (fun hc => by cases hc) (fun _ => ?_)
      refine W_skip ?_
      refine wsr ?_
      refine wp rfl hC (oc_load hC (.tmp rfl) (by first | exact .p rfl | exact .rp) shp_3 (by first | exact unit_one rfl | exact unit_I (by first | omega | (simp <;> fail) | (simp; omega)) | exact unit_c rfl (by decide) | exact unit_c rfl (by simp)) rfl rfl) ?_
      refine wp rfl hC (oc_assign hC (.tmp rfl) rfl rfl) ?_
      refine WL_nil ?_
      refine W_ret ?_
      exact finK (fun k => k) (.cons (.tmp rfl) .nil) rfl (wr_cons rfl (Blk.ren_free (by simp) _) wr_nil) rfl rfl
    ·
      refine W_region ?_
      refine wp rfl hC (oc_move hC (.tmp rfl) rfl rfl) ?_
      refine wp rfl hC (ox_cmp hC rfl (.tmp rfl) .cint (r := true) (by simp only [cmpI]; exact decide_eq_true (by omega)) rfl rfl) ?_
      refine wp rfl hC (oc_move hC (.tmp rfl) rfl rfl) ?_
      refine WL_cons hC.fn (.yes rfl rfl (by decide) rfl (oc_move hC (.tmp rfl) rfl rfl)) ?_
      refine WL_cons hC.fn (.yes rfl rfl (by decide) rfl (oc_move hC (.tmp rfl) rfl rfl)) ?_
      refine WL_cons hC.fn (.yes rfl rfl (by decide) rfl (ox_indexS hC  (.tmp rfl) (.tmp rfl) idx_22 (by first | rfl | exact toNat_up (by omega)) (by first | exact Nat.mul_one _ | rfl) (by first | exact .row rfl | exact .sl (Nat.zero_add _) | exact .sl rfl | exact .vs (by first | omega | (simp <;> fail) | (simp; omega))) (by first | omega | (simp <;> fail) | (simp; omega)) rfl rfl)) ?_
      refine WL_cons hC.fn (.yes rfl rfl (by decide) rfl (oc_load hC (.tmp rfl) (by first | exact .p rfl | exact .rp) shp_5 (by exact (unit_I (by first | omega | (simp <;> fail) | (simp; omega)))) rfl rfl)) ?_
      refine WL_cons hC.fn (.yes rfl rfl (by decide) rfl (ox_cmp hC rfl (.tmp rfl) .cint (r := false) (by rw [hxa]; simp only [cmpI]; exact decide_eq_false hz2.2) rfl rfl)) ?_
      refine wp rfl hC (ox_pick hC (.tmp rfl) (.tmp rfl) .cbool (by first | exact pick_t | exact pick_f | rfl) rfl rfl) ?_
      refine wp rfl hC (oc_assign hC (.tmp rfl) rfl rfl) ?_
      refine WL_nil ?_
      refine W_cond rfl (by decide) (fun hc => by cases hc) (fun _ => ?_)
      refine wsr ?_
      refine wp rfl hC (oc_load hC (.tmp rfl) (by first | exact .p rfl | exact .rp) shp_3 (by first | exact unit_one rfl | exact unit_I (by first | omega | (simp <;> fail) | (simp; omega)) | exact unit_c rfl (by decide) | exact unit_c rfl (by simp)) rfl rfl) ?_
      refine wp rfl hC (oc_move hC (.tmp rfl) rfl rfl) ?_
      refine wp rfl hC (ox_cmp hC rfl (.tmp rfl) (.tmp rfl) (r := false) (by simp only [cmpI]; exact decide_eq_false (by omega)) rfl rfl) ?_
      refine wp rfl hC (oc_move hC (.tmp rfl) rfl rfl) ?_
      refine WL_cons hC.fn (.yes rfl rfl (by decide) rfl (oc_load hC (.tmp rfl) (by first | exact .p rfl | exact .rp) shp_3 (by first | exact unit_one rfl | exact unit_I (by first | omega | (simp <;> fail) | (simp; omega)) | exact unit_c rfl (by decide) | exact unit_c rfl (by simp)) rfl rfl)) ?_
      refine WL_cons hC.fn (.yes rfl rfl (by decide) rfl (ox_cmp hC rfl (.tmp rfl) .cint (r := false) (by simp only [cmpI]; exact decide_eq_false (by omega)) rfl rfl)) ?_
      refine wp rfl hC (ox_pick hC (.tmp rfl) .cbool (.tmp rfl) (by first | exact pick_t | exact pick_f | rfl) rfl rfl) ?_
      refine wp rfl hC (oc_assign hC (.tmp rfl) rfl rfl) ?_
      refine WL_nil ?_
      refine W_cond rfl (by decide) (fun hc => by cases hc) (fun _ => ?_)
      refine W_skip ?_
      refine wsr ?_
      refine wp rfl hC (oc_load hC (.tmp rfl) (by first | exact .p rfl | exact .rp) shp_3 (by first | exact unit_one rfl | exact unit_I (by first | omega | (simp <;> fail) | (simp; omega)) | exact unit_c rfl (by decide) | exact unit_c rfl (by simp)) rfl rfl) ?_
      refine wp rfl hC (oc_assign hC (.tmp rfl) rfl rfl) ?_
      refine WL_nil ?_
      refine W_ret ?_
      exact finK (fun k => k) (.cons (.tmp rfl) .nil) rfl (wr_cons rfl (Blk.ren_free (by simp) _) wr_nil) rfl rfl
set_option maxRecDepth 20000 in
set_option maxHeartbeats 4000000 in
theorem put_c (nb nC : Nat) (b : List Int) (n : Int) (hb : b.length = nb) (hl : nb ≤ 1099511627000) (hn : (n = nC ∧ nC ≤ 1099511627775) ∨ ((n < 0 ∨ 1099511627775 < n) ∧ nC = 0)) : FnC Tryd.prog 27 [] [.vs nb (I .u8 b), .i .i64 n] [] [(0, .row 5 1 (nb + (putV nC).length) (I .u8 (b ++ putV nC)))] (.row 0) := by
  have hlp := length_putN 6 nC
  have hlv : (putV nC).length ≤ 7 := by unfold putV; exact hlp
  refine FnC.introR (N0 := 0) (T := 30) (E := [(0, .vs nb (I .u8 b)), (1, .i .i64 n)]) Tryd.func27 rfl (by decide) mix rfl rfl rfl (by simp) rfl ⟨(by first | exact inSL_I _ | trivial | simp), (by first | exact inSL_I _ | trivial | simp), trivial⟩ (by simp) (by
        intro S ha hr hw
        have s0 : S 0 := hw 0 (by first | (simp; done) | (show some _ ≠ none; simp)) (by first | rfl | simp)
        refine ⟨by first | exact inSL_I _ | simp [s0], fun k b hm => ?_⟩
        simp only [List.mem_cons, Prod.mk.injEq, List.not_mem_nil, or_false] at hm
        rcases hm with ⟨rfl, rfl⟩
        · exact ⟨s0, by first | exact inSL_I _ | simp [s0]⟩) (fun F n0 X w ρ hC hro => ?_)
  refine wsr ?_
  refine wp rfl hC (oc_assign hC .cnils rfl rfl) ?_
  refine WL_nil ?_
  refine W_seq ?_
  refine W_seq ?_
  rcases (show (n = nC ∧ nC ≤ 1099511627775) ∨ (n < 0 ∧ nC = 0) ∨ (0 ≤ n ∧ 1099511627775 < n ∧ nC = 0) by omega) with h | h | h
  ·
    refine W_region ?_
    refine wp rfl hC (oc_move hC (.tmp rfl) rfl rfl) ?_
    refine wp rfl hC (ox_cmp hC rfl (.tmp rfl) .cint (r := false) (by simp only [cmpI]; exact decide_eq_false (by omega)) rfl rfl) ?_
    refine wp rfl hC (oc_move hC (.tmp rfl) rfl rfl) ?_
    refine WL_cons hC.fn (.yes rfl rfl (by decide) rfl (oc_move hC (.tmp rfl) rfl rfl)) ?_
    refine WL_cons hC.fn (.yes rfl rfl (by decide) rfl (ox_cmp hC rfl (.tmp rfl) .cint (r := false) (by simp only [cmpI]; exact decide_eq_false (by omega)) rfl rfl)) ?_
    refine wp rfl hC (ox_pick hC (.tmp rfl) .cbool (.tmp rfl) (by first | exact pick_t | exact pick_f | rfl) rfl rfl) ?_
    refine WL_nil ?_
    refine W_cond rfl (by decide) (fun hc => by cases hc) (fun _ => ?_)
    refine W_skip ?_
    refine wsr ?_
    refine wp rfl hC (oc_move hC (.tmp rfl) rfl rfl) ?_
    refine wp rfl hC (oc_callN hC (.cons (.tmp rfl) .nil) (.cons1 (by first | exact .free (by first | exact inSL_I _ | simp) | exact .row rfl rfl (by first | exact inSL_I _ | simp) | exact .nils | exact .sl1 rfl (by first | exact cut_I | rfl) (by first | exact inSL_I _ | simp)) (.same (by first | exact inSL_I _ | simp))) (clone_c _ _ hb (by omega)) glob_nil (by first | exact inSL_I _ | simp) rfl (by first | exact .inl rfl | exact .inr ⟨by simp, novsL_I _⟩ | exact .inr ⟨by simp, by simp⟩) rfl rfl) ?_
    refine wp rfl hC (oc_assign hC (.tmp rfl) rfl rfl) ?_
    refine WL_nil ?_
    refine W_seq ?_
    refine W_blk ?_
    refine W_loopW (fun (ζ : Nat × Nat × List Int) => ⟨1, [(1, .i .i64 ζ.2.1), (5, .row 0)], [(0, .row 5 1 (nb + ζ.2.2.length) (I .u8 (b ++ ζ.2.2)))]⟩) (fun ζ => PutR nC ζ.2.2 ζ.1 ζ.2.1 ∧ ζ.2.1 ≤ 1099511627775 ∧ ζ.2.2.length ≤ 6 - ζ.1 ∧ ζ.1 ≤ 6) (fun ζ => ζ.2.1) (6, nC, []) ⟨PutR.zero (by omega), (by show nC ≤ _; omega), by simp, Nat.le_refl 6⟩ (weak (fun k => k) (.cons rfl (congrArg (AV.i _) (by show ((nC : Nat) : Int) = _; omega)) trivial (.cons rfl (by first | rfl | simp) (by show _ < _; decide) .nil)) (.cons rfl (renRow rfl (by simp)) rfl (by first | exact inSL_I _ | simp) .nil) rfl rfl rfl) ?_
    rintro ⟨f, cur, em⟩ hR
    replace hR : PutR nC em f cur ∧ cur ≤ 1099511627775 ∧ em.length ≤ 6 - f ∧ f ≤ 6 := hR
    obtain ⟨hP, hcl, hel, hf6⟩ := hR
    first | show W _ _ _ ⟨1, [(1, .i .i64 cur), (5, .row 0)], [(0, .row 5 1 (nb + em.length) (I .u8 (b ++ em)))]⟩ | skip
    refine W_seq ?_
    refine wsr ?_
    refine wp rfl hC (oc_move hC (.tmp rfl) rfl rfl) ?_
    refine wp rfl hC (ox_cmp hC rfl (.tmp rfl) .cint rfl rfl rfl) ?_
    refine WL_nil ?_
    refine W_cond rfl (by decide) (fun hc => ?_) (fun hc => ?_)
    ·
      replace hc := gtr_t hc
      obtain ⟨g, rfl, hS⟩ := hP.succ (by omega)
      refine W_skip ?_
      refine W_seq ?_
      refine W_blk ?_
      refine W_region ?_
      refine wp rfl hC (oc_move hC (.tmp rfl) rfl rfl) ?_
      refine wp rfl hC (oc_move hC (.tmp rfl) rfl rfl) ?_
      refine wp rfl hC (oc_bin hC rfl (.tmp rfl) .cint (r := ((cur % 128 : Nat) : Int)) (and64 (by omega)) rfl rfl) ?_
      refine wp rfl hC (oc_bin hC rfl (.tmp rfl) .cint (r := ((128 + cur % 128 : Nat) : Int)) (or128 (by omega)) rfl rfl) ?_
      refine wp rfl hC (oc_conv hC (.tmp rfl) rfl Tryd.underlying5 (by first | exact u8_conv (by omega) | rfl) rfl rfl) ?_
      refine wp rfl hC (ox_lit hC (.cons (.tmp rfl) .nil) Tryd.underlying22 cells_5 zero_5 rfl (by decide) rfl rfl (by first | rfl | simp) rfl rfl) ?_
      refine wp rfl hC (ox_append hC (.tmp rfl) (.tmp rfl) (by first | exact .row rfl rfl (by first | exact .here rfl | exact .s1 rfl rfl | exact .s2 rfl rfl rfl | exact .s3 rfl rfl rfl rfl | exact .s4 rfl rfl rfl rfl rfl | exact .s5 rfl rfl rfl rfl rfl rfl | exact .s6 rfl rfl rfl rfl rfl rfl rfl | exact .s7 rfl rfl rfl rfl rfl rfl rfl rfl | exact .s8 rfl rfl rfl rfl rfl rfl rfl rfl rfl) | exact .nils) (by first | exact .row rfl | exact .vs | exact .sl rfl | exact .nils) (by first | exact hro_nil | exact hro_one rfl) Tryd.underlying22 cells_5 bytes_5 zero_5 rfl (by decide) (by first | (simp <;> fail) | (simp; omega)) (by first | rfl | exact one_takeI) (by first | rfl | (simp <;> fail) | (simp; omega)) app_1 (by simp only [maxLen]; omega) (by omega) rfl rfl) ?_
      refine wp rfl hC (oc_assign hC (.tmp rfl) rfl rfl) ?_
      refine WL_nil ?_
      refine W_region ?_
      refine wp rfl hC (oc_move hC (.tmp rfl) rfl rfl) ?_
      refine wp rfl hC (oc_shift hC (.inr rfl) (.tmp rfl) .cint (by first | decide | omega) (shr_n (n := 7) rfl (by decide)) rfl rfl) ?_
      refine wp rfl hC (oc_assign hC (.tmp rfl) rfl rfl) ?_
      refine WL_nil ?_
      exact ⟨(g, cur / 128, em ++ [((128 + cur % 128 : Nat) : Int)]), ⟨hS, (by show cur / 128 ≤ _; omega), (by show (em ++ [_]).length ≤ 6 - g; simp; omega), (by show g ≤ 6; omega)⟩, (weak (fun k => bif Nat.beq k 0 then 1 else k) (.cons rfl (congrArg (AV.i _) (by show ((cur / 128 : Nat) : Int) = _; omega)) trivial (.cons rfl (by first | rfl | simp) (by show _ < _; decide) .nil)) (.cons rfl (renRow (by simp; omega) (by rw [List.append_assoc])) rfl (by first | exact inSL_I _ | simp) .nil) rfl rfl rfl), (by show cur / 128 < cur; omega)⟩
    ·
      replace hc := gtr_f hc
      have hE := hP.end (by omega)
      refine W_exit ?_
      refine wsr ?_
      refine wp rfl hC (oc_move hC (.tmp rfl) rfl rfl) ?_
      refine wp rfl hC (oc_move hC (.tmp rfl) rfl rfl) ?_
      refine wp rfl hC (oc_conv hC (.tmp rfl) rfl Tryd.underlying5 (by first | exact u8_conv (by omega) | rfl) rfl rfl) ?_
      refine wp rfl hC (ox_lit hC (.cons (.tmp rfl) .nil) Tryd.underlying22 cells_5 zero_5 rfl (by decide) rfl rfl (by first | rfl | simp) rfl rfl) ?_
      refine wp rfl hC (ox_append (n' := nb + (putV nC).length) (cs' := I .u8 (b ++ putV nC)) hC (.tmp rfl) (.tmp rfl) (by first | exact .row rfl rfl (by first | exact .here rfl | exact .s1 rfl rfl | exact .s2 rfl rfl rfl | exact .s3 rfl rfl rfl rfl | exact .s4 rfl rfl rfl rfl rfl | exact .s5 rfl rfl rfl rfl rfl rfl | exact .s6 rfl rfl rfl rfl rfl rfl rfl | exact .s7 rfl rfl rfl rfl rfl rfl rfl rfl | exact .s8 rfl rfl rfl rfl rfl rfl rfl rfl rfl) | exact .nils) (by first | exact .row rfl | exact .vs | exact .sl rfl | exact .nils) (by first | exact hro_nil | exact hro_one rfl) Tryd.underlying22 cells_5 bytes_5 zero_5 rfl (by decide) (by first | (simp <;> fail) | (simp; omega)) (by first | rfl | exact one_takeI) (by rw [← hE]; simp; omega) (app_1.trans (by rw [List.append_assoc, hE])) (by simp only [maxLen]; omega) (by omega) rfl rfl) ?_
      refine wp rfl hC (oc_assign hC (.tmp rfl) rfl rfl) ?_
      refine WL_nil ?_
      refine W_ret ?_
      exact fin1 (.cons (.tmp rfl) .nil) rfl rfl (inSL_I _)
  ·
    refine W_region ?_
    refine wp rfl hC (oc_move hC (.tmp rfl) rfl rfl) ?_
    refine wp rfl hC (ox_cmp hC rfl (.tmp rfl) .cint (r := true) (by simp only [cmpI]; exact decide_eq_true (by omega)) rfl rfl) ?_
    refine wp rfl hC (oc_move hC (.tmp rfl) rfl rfl) ?_
    refine WL_cons hC.fn (.no (s1 := ⟨_, (9, .tu []) :: _, _⟩) rfl rfl (by decide) rfl (by decide) (fun t ht => by cases ht; exact ⟨blt_lt rfl, blt_lt rfl⟩) (fun t => setE_cons _ _ _ _) rfl rfl) ?_
    refine WL_cons hC.fn (.no (s1 := ⟨_, (10, .tu []) :: _, _⟩) rfl rfl (by decide) rfl (by decide) (fun t ht => by cases ht; exact ⟨blt_lt rfl, blt_lt rfl⟩) (fun t => setE_cons _ _ _ _) rfl rfl) ?_
    refine wp rfl hC (ox_pick hC (.tmp rfl) .cbool (.tmp rfl) (by first | exact pick_t | exact pick_f | rfl) rfl rfl) ?_
    refine WL_nil ?_
    refine W_cond rfl (by decide) (fun _ => ?_) (fun hc => by cases hc)
    refine W_region ?_
    refine wp rfl hC (oc_assign hC .cint rfl rfl) ?_
    refine WL_nil ?_
    refine wsr ?_
    refine wp rfl hC (oc_move hC (.tmp rfl) rfl rfl) ?_
    refine wp rfl hC (oc_callN hC (.cons (.tmp rfl) .nil) (.cons1 (by first | exact .free (by first | exact inSL_I _ | simp) | exact .row rfl rfl (by first | exact inSL_I _ | simp) | exact .nils | exact .sl1 rfl (by first | exact cut_I | rfl) (by first | exact inSL_I _ | simp)) (.same (by first | exact inSL_I _ | simp))) (clone_c _ _ hb (by omega)) glob_nil (by first | exact inSL_I _ | simp) rfl (by first | exact .inl rfl | exact .inr ⟨by simp, novsL_I _⟩ | exact .inr ⟨by simp, by simp⟩) rfl rfl) ?_
    refine wp rfl hC (oc_assign hC (.tmp rfl) rfl rfl) ?_
    refine WL_nil ?_
    refine W_seq ?_
    refine W_blk ?_
    refine W_loopW (fun (ζ : Nat × Nat × List Int) => ⟨1, [(1, .i .i64 ζ.2.1), (5, .row 0)], [(0, .row 5 1 (nb + ζ.2.2.length) (I .u8 (b ++ ζ.2.2)))]⟩) (fun ζ => PutR nC ζ.2.2 ζ.1 ζ.2.1 ∧ ζ.2.1 ≤ 1099511627775 ∧ ζ.2.2.length ≤ 6 - ζ.1 ∧ ζ.1 ≤ 6) (fun ζ => ζ.2.1) (6, nC, []) ⟨PutR.zero (by omega), (by show nC ≤ _; omega), by simp, Nat.le_refl 6⟩ (weak (fun k => k) (.cons rfl (congrArg (AV.i _) (by show ((nC : Nat) : Int) = _; omega)) trivial (.cons rfl (by first | rfl | simp) (by show _ < _; decide) .nil)) (.cons rfl (renRow rfl (by simp)) rfl (by first | exact inSL_I _ | simp) .nil) rfl rfl rfl) ?_
    rintro ⟨f, cur, em⟩ hR
    replace hR : PutR nC em f cur ∧ cur ≤ 1099511627775 ∧ em.length ≤ 6 - f ∧ f ≤ 6 := hR
    obtain ⟨hP, hcl, hel, hf6⟩ := hR
    first | show W _ _ _ ⟨1, [(1, .i .i64 cur), (5, .row 0)], [(0, .row 5 1 (nb + em.length) (I .u8 (b ++ em)))]⟩ | skip
    refine W_seq ?_
    refine wsr ?_
    refine wp rfl hC (oc_move hC (.tmp rfl) rfl rfl) ?_
    refine wp rfl hC (ox_cmp hC rfl (.tmp rfl) .cint rfl rfl rfl) ?_
    refine WL_nil ?_
    refine W_cond rfl (by decide) (fun hc => ?_) (fun hc => ?_)
    ·
      replace hc := gtr_t hc
      obtain ⟨g, rfl, hS⟩ := hP.succ (by omega)
      refine W_skip ?_
      refine W_seq ?_
      refine W_blk ?_
      refine W_region ?_
      refine wp rfl hC (oc_move hC (.tmp rfl) rfl rfl) ?_
      refine wp rfl hC (oc_move hC (.tmp rfl) rfl rfl) ?_
      refine wp rfl hC (oc_bin hC rfl (.tmp rfl) .cint (r := ((cur % 128 : Nat) : Int)) (and64 (by omega)) rfl rfl) ?_
      refine wp rfl hC (oc_bin hC rfl (.tmp rfl) .cint (r := ((128 + cur % 128 : Nat) : Int)) (or128 (by omega)) rfl rfl) ?_
      refine wp rfl hC (oc_conv hC (.tmp rfl) rfl Tryd.underlying5 (by first | exact u8_conv (by omega) | rfl) rfl rfl) ?_
      refine wp rfl hC (ox_lit hC (.cons (.tmp rfl) .nil) Tryd.underlying22 cells_5 zero_5 rfl (by decide) rfl rfl (by first | rfl | simp) rfl rfl) ?_
      refine wp rfl hC (ox_append hC (.tmp rfl) (.tmp rfl) (by first | exact .row rfl rfl (by first | exact .here rfl | exact .s1 rfl rfl | exact .s2 rfl rfl rfl | exact .s3 rfl rfl rfl rfl | exact .s4 rfl rfl rfl rfl rfl | exact .s5 rfl rfl rfl rfl rfl rfl | exact .s6 rfl rfl rfl rfl rfl rfl rfl | exact .s7 rfl rfl rfl rfl rfl rfl rfl rfl | exact .s8 rfl rfl rfl rfl rfl rfl rfl rfl rfl) | exact .nils) (by first | exact .row rfl | exact .vs | exact .sl rfl | exact .nils) (by first | exact hro_nil | exact hro_one rfl) Tryd.underlying22 cells_5 bytes_5 zero_5 rfl (by decide) (by first | (simp <;> fail) | (simp; omega)) (by first | rfl | exact one_takeI) (by first | rfl | (simp <;> fail) | (simp; omega)) app_1 (by simp only [maxLen]; omega) (by omega) rfl rfl) ?_
      refine wp rfl hC (oc_assign hC (.tmp rfl) rfl rfl) ?_
      refine WL_nil ?_
      refine W_region ?_
      refine wp rfl hC (oc_move hC (.tmp rfl) rfl rfl) ?_
      refine wp rfl hC (oc_shift hC (.inr rfl) (.tmp rfl) .cint (by first | decide | omega) (shr_n (n := 7) rfl (by decide)) rfl rfl) ?_
      refine wp rfl hC (oc_assign hC (.tmp rfl) rfl rfl) ?_
      refine WL_nil ?_
      exact ⟨(g, cur / 128, em ++ [((128 + cur % 128 : Nat) : Int)]), ⟨hS, (by show cur / 128 ≤ _; omega), (by show (em ++ [_]).length ≤ 6 - g; simp; omega), (by show g ≤ 6; omega)⟩, (weak (fun k => bif Nat.beq k 0 then 1 else k) (.cons rfl (congrArg (AV.i _) (by show ((cur / 128 : Nat) : Int) = _; omega)) trivial (.cons rfl (by first | rfl | simp) (by show _ < _; decide) .nil)) (.cons rfl (renRow (by simp; omega) (by rw [List.append_assoc])) rfl (by first | exact inSL_I _ | simp) .nil) rfl rfl rfl), (by show cur / 128 < cur; omega)⟩
    ·
      replace hc := gtr_f hc
      have hE := hP.end (by omega)
      refine W_exit ?_
      refine wsr ?_
      refine wp rfl hC (oc_move hC (.tmp rfl) rfl rfl) ?_
      refine wp rfl hC (oc_move hC (.tmp rfl) rfl rfl) ?_
      refine wp rfl hC (oc_conv hC (.tmp rfl) rfl Tryd.underlying5 (by first | exact u8_conv (by omega) | rfl) rfl rfl) ?_
      refine wp rfl hC (ox_lit hC (.cons (.tmp rfl) .nil) Tryd.underlying22 cells_5 zero_5 rfl (by decide) rfl rfl (by first | rfl | simp) rfl rfl) ?_
      refine wp rfl hC (ox_append (n' := nb + (putV nC).length) (cs' := I .u8 (b ++ putV nC)) hC (.tmp rfl) (.tmp rfl) (by first | exact .row rfl rfl (by first | exact .here rfl | exact .s1 rfl rfl | exact .s2 rfl rfl rfl | exact .s3 rfl rfl rfl rfl | exact .s4 rfl rfl rfl rfl rfl | exact .s5 rfl rfl rfl rfl rfl rfl | exact .s6 rfl rfl rfl rfl rfl rfl rfl | exact .s7 rfl rfl rfl rfl rfl rfl rfl rfl | exact .s8 rfl rfl rfl rfl rfl rfl rfl rfl rfl) | exact .nils) (by first | exact .row rfl | exact .vs | exact .sl rfl | exact .nils) (by first | exact hro_nil | exact hro_one rfl) Tryd.underlying22 cells_5 bytes_5 zero_5 rfl (by decide) (by first | (simp <;> fail) | (simp; omega)) (by first | rfl | exact one_takeI) (by rw [← hE]; simp; omega) (app_1.trans (by rw [List.append_assoc, hE])) (by simp only [maxLen]; omega) (by omega) rfl rfl) ?_
      refine wp rfl hC (oc_assign hC (.tmp rfl) rfl rfl) ?_
      refine WL_nil ?_
      refine W_ret ?_
      exact fin1 (.cons (.tmp rfl) .nil) rfl rfl (inSL_I _)
  ·
    refine W_region ?_
    refine wp rfl hC (oc_move hC (.tmp rfl) rfl rfl) ?_
    refine wp rfl hC (ox_cmp hC rfl (.tmp rfl) .cint (r := false) (by simp only [cmpI]; exact decide_eq_false (by omega)) rfl rfl) ?_
    refine wp rfl hC (oc_move hC (.tmp rfl) rfl rfl) ?_
    refine WL_cons hC.fn (.yes rfl rfl (by decide) rfl (oc_move hC (.tmp rfl) rfl rfl)) ?_
    refine WL_cons hC.fn (.yes rfl rfl (by decide) rfl (ox_cmp hC rfl (.tmp rfl) .cint (r := true) (by simp only [cmpI]; exact decide_eq_true (by omega)) rfl rfl)) ?_
    refine wp rfl hC (ox_pick hC (.tmp rfl) .cbool (.tmp rfl) (by first | exact pick_t | exact pick_f | rfl) rfl rfl) ?_
    refine WL_nil ?_
    refine W_cond rfl (by decide) (fun _ => ?_) (fun hc => by cases hc)
    refine W_region ?_
    refine wp rfl hC (oc_assign hC .cint rfl rfl) ?_
    refine WL_nil ?_
    refine wsr ?_
    refine wp rfl hC (oc_move hC (.tmp rfl) rfl rfl) ?_
    refine wp rfl hC (oc_callN hC (.cons (.tmp rfl) .nil) (.cons1 (by first | exact .free (by first | exact inSL_I _ | simp) | exact .row rfl rfl (by first | exact inSL_I _ | simp) | exact .nils | exact .sl1 rfl (by first | exact cut_I | rfl) (by first | exact inSL_I _ | simp)) (.same (by first | exact inSL_I _ | simp))) (clone_c _ _ hb (by omega)) glob_nil (by first | exact inSL_I _ | simp) rfl (by first | exact .inl rfl | exact .inr ⟨by simp, novsL_I _⟩ | exact .inr ⟨by simp, by simp⟩) rfl rfl) ?_
    refine wp rfl hC (oc_assign hC (.tmp rfl) rfl rfl) ?_
    refine WL_nil ?_
    refine W_seq ?_
    refine W_blk ?_
    refine W_loopW (fun (ζ : Nat × Nat × List Int) => ⟨1, [(1, .i .i64 ζ.2.1), (5, .row 0)], [(0, .row 5 1 (nb + ζ.2.2.length) (I .u8 (b ++ ζ.2.2)))]⟩) (fun ζ => PutR nC ζ.2.2 ζ.1 ζ.2.1 ∧ ζ.2.1 ≤ 1099511627775 ∧ ζ.2.2.length ≤ 6 - ζ.1 ∧ ζ.1 ≤ 6) (fun ζ => ζ.2.1) (6, nC, []) ⟨PutR.zero (by omega), (by show nC ≤ _; omega), by simp, Nat.le_refl 6⟩ (weak (fun k => k) (.cons rfl (congrArg (AV.i _) (by show ((nC : Nat) : Int) = _; omega)) trivial (.cons rfl (by first | rfl | simp) (by show _ < _; decide) .nil)) (.cons rfl (renRow rfl (by simp)) rfl (by first | exact inSL_I _ | simp) .nil) rfl rfl rfl) ?_
    rintro ⟨f, cur, em⟩ hR
    replace hR : PutR nC em f cur ∧ cur ≤ 1099511627775 ∧ em.length ≤ 6 - f ∧ f ≤ 6 := hR
    obtain ⟨hP, hcl, hel, hf6⟩ := hR
    first | show W _ _ _ ⟨1, [(1, .i .i64 cur), (5, .row 0)], [(0, .row 5 1 (nb + em.length) (I .u8 (b ++ em)))]⟩ | skip
    refine W_seq ?_
    refine wsr ?_
    refine wp rfl hC (oc_move hC (.tmp rfl) rfl rfl) ?_
    refine wp rfl hC (ox_cmp hC rfl (.tmp rfl) .cint rfl rfl rfl) ?_
    refine WL_nil ?_
    refine W_cond rfl (by decide) (fun hc => ?_) (fun hc => ?_)
    ·
      replace hc := gtr_t hc
      obtain ⟨g, rfl, hS⟩ := hP.succ (by omega)
      refine W_skip ?_
      refine W_seq ?_
      refine W_blk ?_
      refine W_region ?_
      refine wp rfl hC (oc_move hC (.tmp rfl) rfl rfl) ?_
      refine wp rfl hC (oc_move hC (.tmp rfl) rfl rfl) ?_
      refine wp rfl hC (oc_bin hC rfl (.tmp rfl) .cint (r := ((cur % 128 : Nat) : Int)) (and64 (by omega)) rfl rfl) ?_
      refine wp rfl hC (oc_bin hC rfl (.tmp rfl) .cint (r := ((128 + cur % 128 : Nat) : Int)) (or128 (by omega)) rfl rfl) ?_
      refine wp rfl hC (oc_conv hC (.tmp rfl) rfl Tryd.underlying5 (by first | exact u8_conv (by omega) | rfl) rfl rfl) ?_
      refine wp rfl hC (ox_lit hC (.cons (.tmp rfl) .nil) Tryd.underlying22 cells_5 zero_5 rfl (by decide) rfl rfl (by first | rfl | simp) rfl rfl) ?_
      refine wp rfl hC (ox_append hC (.tmp rfl) (.tmp rfl) (by first | exact .row rfl rfl (by first | exact .here rfl | exact .s1 rfl rfl | exact .s2 rfl rfl rfl | exact .s3 rfl rfl rfl rfl | exact .s4 rfl rfl rfl rfl rfl | exact .s5 rfl rfl rfl rfl rfl rfl | exact .s6 rfl rfl rfl rfl rfl rfl rfl | exact .s7 rfl rfl rfl rfl rfl rfl rfl rfl | exact .s8 rfl rfl rfl rfl rfl rfl rfl rfl rfl) | exact .nils) (by first | exact .row rfl | exact .vs | exact .sl rfl | exact .nils) (by first | exact hro_nil | exact hro_one rfl) Tryd.underlying22 cells_5 bytes_5 zero_5 rfl (by decide) (by first | (simp <;> fail) | (simp; omega)) (by first | rfl | exact one_takeI) (by first | rfl | (simp <;> fail) | (simp; omega)) app_1 (by simp only [maxLen]; omega) (by omega) rfl rfl) ?_
      refine wp rfl hC (oc_assign hC (.tmp rfl) rfl rfl) ?_
      refine WL_nil ?_
      refine W_region ?_
      refine wp rfl hC (oc_move hC (.tmp rfl) rfl rfl) ?_
      refine wp rfl hC (oc_shift hC (.inr rfl) (.tmp rfl) .cint (by first | decide | omega) (shr_n (n := 7) rfl (by decide)) rfl rfl) ?_
      refine wp rfl hC (oc_assign hC (.tmp rfl) rfl rfl) ?_
      refine WL_nil ?_
      exact ⟨(g, cur / 128, em ++ [((128 + cur % 128 : Nat) : Int)]), ⟨hS, (by show cur / 128 ≤ _; omega), (by show (em ++ [_]).length ≤ 6 - g; simp; omega), (by show g ≤ 6; omega)⟩, (weak (fun k => bif Nat.beq k 0 then 1 else k) (.cons rfl (congrArg (AV.i _) (by show ((cur / 128 : Nat) : Int) = _; omega)) trivial (.cons rfl (by first | rfl | simp) (by show _ < _; decide) .nil)) (.cons rfl (renRow (by simp; omega) (by rw [List.append_assoc])) rfl (by first | exact inSL_I _ | simp) .nil) rfl rfl rfl), (by show cur / 128 < cur; omega)⟩
    ·
      replace hc := gtr_f hc
      have hE := hP.end (by omega)
      refine W_exit ?_
      refine wsr ?_
      refine wp rfl hC (oc_move hC (.tmp rfl) rfl rfl) ?_
      refine wp rfl hC (oc_move hC (.tmp rfl) rfl rfl) ?_
      refine wp rfl hC (oc_conv hC (.tmp rfl) rfl Tryd.underlying5 (by first | exact u8_conv (by omega) | rfl) rfl rfl) ?_
      refine wp rfl hC (ox_lit hC (.cons (.tmp rfl) .nil) Tryd.underlying22 cells_5 zero_5 rfl (by decide) rfl rfl (by first | rfl | simp) rfl rfl) ?_
      refine wp rfl hC (ox_append (n' := nb + (putV nC).length) (cs' := I .u8 (b ++ putV nC)) hC (.tmp rfl) (.tmp rfl) (by first | exact .row rfl rfl (by first | exact .here rfl | exact .s1 rfl rfl | exact .s2 rfl rfl rfl | exact .s3 rfl rfl rfl rfl | exact .s4 rfl rfl rfl rfl rfl | exact .s5 rfl rfl rfl rfl rfl rfl | exact .s6 rfl rfl rfl rfl rfl rfl rfl | exact .s7 rfl rfl rfl rfl rfl rfl rfl rfl | exact .s8 rfl rfl rfl rfl rfl rfl rfl rfl rfl) | exact .nils) (by first | exact .row rfl | exact .vs | exact .sl rfl | exact .nils) (by first | exact hro_nil | exact hro_one rfl) Tryd.underlying22 cells_5 bytes_5 zero_5 rfl (by decide) (by first | (simp <;> fail) | (simp; omega)) (by first | rfl | exact one_takeI) (by rw [← hE]; simp; omega) (app_1.trans (by rw [List.append_assoc, hE])) (by simp only [maxLen]; omega) (by omega) rfl rfl) ?_
      refine wp rfl hC (oc_assign hC (.tmp rfl) rfl rfl) ?_
      refine WL_nil ?_
      refine W_ret ?_
      exact fin1 (.cons (.tmp rfl) .nil) rfl rfl (inSL_I _)
set_option maxRecDepth 20000 in
set_option maxHeartbeats 4000000 in
theorem fix_c (nb n wd : Nat) (b : List Int) (width : Int) (hb : b.length = nb) (hl : nb ≤ 1099511627000) (hw : (width = wd ∧ wd ≤ 8) ∨ (width < 0 ∧ wd = 0)) : FnC Tryd.prog 29 [] [.vs nb (I .u8 b), .i .u64 n, .i .i64 width] [] [(0, .row 5 1 (nb + wd) (I .u8 (b ++ fixL n wd)))] (.row 0) := by
  refine FnC.introR (N0 := 0) (T := 26) (E := [(0, .vs nb (I .u8 b)), (1, .i .u64 n), (2, .i .i64 width)]) Tryd.func29 rfl (by decide) mix rfl rfl rfl (by simp) rfl ⟨(by first | exact inSL_I _ | trivial | simp), (by first | exact inSL_I _ | trivial | simp), (by first | exact inSL_I _ | trivial | simp), trivial⟩ (by simp) (by
        intro S ha hr hw
        have s0 : S 0 := hw 0 (by first | (simp; done) | (show some _ ≠ none; simp)) (by first | rfl | simp)
        refine ⟨by first | exact inSL_I _ | simp [s0], fun k b hm => ?_⟩
        simp only [List.mem_cons, Prod.mk.injEq, List.not_mem_nil, or_false] at hm
        rcases hm with ⟨rfl, rfl⟩
        · exact ⟨s0, by first | exact inSL_I _ | simp [s0]⟩) (fun F n0 X w ρ hC hro => ?_)
  refine wsr ?_
  refine wp rfl hC (oc_assign hC .cnils rfl rfl) ?_
  refine WL_nil ?_
  refine wsr ?_
  refine wp rfl hC (oc_move hC (.tmp rfl) rfl rfl) ?_
  refine wp rfl hC (oc_callN hC (.cons (.tmp rfl) .nil) (.cons1 (by first | exact .free (by first | exact inSL_I _ | simp) | exact .row rfl rfl (by first | exact inSL_I _ | simp) | exact .nils | exact .sl1 rfl (by first | exact cut_I | rfl) (by first | exact inSL_I _ | simp)) (.same (by first | exact inSL_I _ | simp))) (clone_c _ _ hb (by omega)) glob_nil (by first | exact inSL_I _ | simp) rfl (by first | exact .inl rfl | exact .inr ⟨by simp, novsL_I _⟩ | exact .inr ⟨by simp, by simp⟩) rfl rfl) ?_
  refine wp rfl hC (oc_assign hC (.tmp rfl) rfl rfl) ?_
  refine WL_nil ?_
  refine W_seq ?_
  refine wsr ?_
  refine wp rfl hC (oc_move hC (.tmp rfl) rfl rfl) ?_
  refine wp rfl hC (ox_cmp hC rfl (.tmp rfl) .cint (r := false) (by simp only [cmpI]; exact decide_eq_false (by omega)) rfl rfl) ?_
  refine WL_nil ?_
  refine W_cond rfl (by decide) (fun hc => by cases hc) (fun _ => ?_)
  refine W_skip ?_
  refine W_seq ?_
  refine wsr ?_
  refine wp rfl hC (oc_move hC (.tmp rfl) rfl rfl) ?_
  refine wp rfl hC (ox_max hC (.tmp rfl) .cint (r := (wd : Int)) (by omega) rfl rfl) ?_
  refine wp rfl hC (oc_move hC .cint rfl rfl) ?_
  refine WL_nil ?_
  refine W_blk ?_
  refine W_loopW (fun (ζ : Nat) => ⟨1, [(1, .i .u64 ((n / 256 ^ ζ : Nat) : Int)), (7, .row 0), (14, .i .i64 wd), (15, .i .i64 ζ)], [(0, .row 5 1 (nb + ζ) (I .u8 (b ++ fixL n ζ)))]⟩) (fun ζ => ζ ≤ wd) (fun ζ => wd - ζ) (0) (Nat.zero_le _) (weak (fun k => k) (.cons rfl (congrArg (AV.i _) (by simp)) trivial (.cons rfl (by first | rfl | simp) (by show _ < _; decide) (.cons rfl (by first | rfl | exact congrArg (AV.i _) (by omega) | exact congrArg (AV.i _) (by simp; omega)) trivial (.cons rfl rfl trivial .nil)))) (.cons rfl (renRow rfl (by unfold fixL; simp)) rfl (by first | exact inSL_I _ | simp) .nil) rfl rfl rfl) ?_
  intro i hR
  replace hR : i ≤ wd := hR
  first | show W _ _ _ ⟨1, [(1, .i .u64 ((n / 256 ^ i : Nat) : Int)), (7, .row 0), (14, .i .i64 wd), (15, .i .i64 i)], [(0, .row 5 1 (nb + i) (I .u8 (b ++ fixL n i)))]⟩ | skip
  refine wsr ?_
  refine wp rfl hC (ox_cmp hC rfl (.tmp rfl) (.tmp rfl) rfl rfl rfl) ?_
  refine WL_nil ?_
  refine W_seq ?_
  refine W_cond rfl (by decide) (fun hc => ?_) (fun hc => ?_)
  ·
    replace hc := lss_t hc
    
    refine W_skip ?_
    refine W_seq ?_
    refine W_blk ?_
    refine wsr ?_
    refine wp rfl hC (oc_move hC (.tmp rfl) rfl rfl) ?_
    refine wp rfl hC (oc_move hC (.tmp rfl) rfl rfl) ?_
    refine wp rfl hC (oc_conv hC (.tmp rfl) rfl Tryd.underlying5 (r := ((n / 256 ^ i % 256 : Nat) : Int)) fix_byte rfl rfl) ?_
    refine wp rfl hC (ox_lit hC (.cons (.tmp rfl) .nil) Tryd.underlying22 cells_5 zero_5 rfl (by decide) rfl rfl (by first | rfl | simp) rfl rfl) ?_
    refine wp rfl hC (ox_append hC (.tmp rfl) (.tmp rfl) (by first | exact .row rfl rfl (by first | exact .here rfl | exact .s1 rfl rfl | exact .s2 rfl rfl rfl | exact .s3 rfl rfl rfl rfl | exact .s4 rfl rfl rfl rfl rfl | exact .s5 rfl rfl rfl rfl rfl rfl | exact .s6 rfl rfl rfl rfl rfl rfl rfl | exact .s7 rfl rfl rfl rfl rfl rfl rfl rfl | exact .s8 rfl rfl rfl rfl rfl rfl rfl rfl rfl) | exact .nils) (by first | exact .row rfl | exact .vs | exact .sl rfl | exact .nils) (by first | exact hro_nil | exact hro_one rfl) Tryd.underlying22 cells_5 bytes_5 zero_5 rfl (by decide) (by first | (simp <;> fail) | (simp; omega)) (by first | rfl | exact one_takeI) (by first | rfl | (simp <;> fail) | (simp; omega)) app_1 (by simp only [maxLen]; omega) (by omega) rfl rfl) ?_
    refine wp rfl hC (oc_assign hC (.tmp rfl) rfl rfl) ?_
    refine WL_nil ?_
    refine W_region ?_
    refine wp rfl hC (oc_move hC (.tmp rfl) rfl rfl) ?_
    refine wp rfl hC (oc_shift hC (.inr rfl) (.tmp rfl) .cint (by first | decide | omega) (shr_n (n := 8) rfl (by decide)) rfl rfl) ?_
    refine wp rfl hC (oc_assign hC (.tmp rfl) rfl rfl) ?_
    refine WL_nil ?_
    refine W_region ?_
    refine wp rfl hC (oc_bin hC rfl (.tmp rfl) .cint (by first | exact i64_add (by omega) | rfl) rfl rfl) ?_
    refine wp rfl hC (oc_move hC (.tmp rfl) rfl rfl) ?_
    refine WL_nil ?_
    exact ⟨(i + 1), (by omega), (weak (fun k => bif Nat.beq k 0 then 1 else k) (.cons rfl (congrArg (AV.i _) fix_next) trivial (.cons rfl (by first | rfl | simp) (by show _ < _; decide) (.cons rfl (by first | rfl | exact congrArg (AV.i _) (by omega) | exact congrArg (AV.i _) (by simp; omega)) trivial (.cons rfl (by first | rfl | exact congrArg (AV.i _) (by omega) | exact congrArg (AV.i _) (by simp; omega)) trivial .nil)))) (.cons rfl (renRow (by omega) (by rw [List.append_assoc, fixL_succ])) rfl (by first | exact inSL_I _ | simp) .nil) rfl rfl rfl), (by omega)⟩
  ·
    replace hc := lss_f hc
    obtain rfl : i = wd := by omega
    refine W_exit ?_
    refine wsr ?_
    refine wp rfl hC (oc_move hC (.tmp rfl) rfl rfl) ?_
    refine wp rfl hC (oc_assign hC (.tmp rfl) rfl rfl) ?_
    refine WL_nil ?_
    refine W_ret ?_
    exact fin1 (.cons (.tmp rfl) .nil) rfl rfl (inSL_I _)
set_option maxRecDepth 20000 in
set_option maxHeartbeats 4000000 in
theorem putb_c (nb nx : Nat) (b x : List Int) (hb : b.length = nb) (hx : x.length = nx) (hl : nb ≤ 1099511627) (hlx : nx ≤ 1099511627) : FnC Tryd.prog 18 [] [.vs nb (I .u8 b), .vs nx (I .u8 x)] [] [(0, .row 5 1 (nb + (putV nx).length + nx) (I .u8 (b ++ putV nx ++ x)))] (.row 0) := by
  have hlp := length_putN 6 nx
  have hlv : (putV nx).length ≤ 7 := by unfold putV; exact hlp
  refine FnC.introR (N0 := 0) (T := 11) (E := [(0, .vs nb (I .u8 b)), (1, .vs nx (I .u8 x))]) Tryd.func18 rfl (by decide) mix rfl rfl rfl (by simp) rfl ⟨(by first | exact inSL_I _ | trivial | simp), (by first | exact inSL_I _ | trivial | simp), trivial⟩ (by simp) (by
        intro S ha hr hw
        have s0 : S 0 := hw 0 (by first | (simp; done) | (show some _ ≠ none; simp)) (by first | rfl | simp)
        refine ⟨by first | exact inSL_I _ | simp [s0], fun k b hm => ?_⟩
        simp only [List.mem_cons, Prod.mk.injEq, List.not_mem_nil, or_false] at hm
        rcases hm with ⟨rfl, rfl⟩
        · exact ⟨s0, by first | exact inSL_I _ | simp [s0]⟩) (fun F n0 X w ρ hC hro => ?_)
  refine wsr ?_
  refine wp rfl hC (oc_assign hC .cnils rfl rfl) ?_
  refine WL_nil ?_
  refine wsr ?_
  refine wp rfl hC (oc_move hC (.tmp rfl) rfl rfl) ?_
  refine wp rfl hC (oc_move hC (.tmp rfl) rfl rfl) ?_
  refine wp rfl hC (ox_len hC (.tmp rfl) (by first | exact .row rfl | exact .vs | exact .sl rfl | exact .nils) Tryd.underlying22 rfl rfl rfl) ?_
  refine wp rfl hC (oc_callN hC (.cons (.tmp rfl) (.cons (.tmp rfl) .nil)) (.cons1 (by first | exact .free (by first | exact inSL_I _ | simp) | exact .row rfl rfl (by first | exact inSL_I _ | simp) | exact .nils | exact .sl1 rfl (by first | exact cut_I | rfl) (by first | exact inSL_I _ | simp)) (.cons1 (.free (by first | exact inSL_I _ | simp)) (.same (by first | exact inSL_I _ | simp)))) (put_c _ _ _ _ hb (by omega) (.inl ⟨rfl, by omega⟩)) glob_nil (by first | exact inSL_I _ | simp) rfl (by first | exact .inl rfl | exact .inr ⟨by simp, novsL_I _⟩ | exact .inr ⟨by simp, by simp⟩) rfl rfl) ?_
  refine wp rfl hC (oc_move hC (.tmp rfl) rfl rfl) ?_
  refine wp rfl hC (ox_append hC (.tmp rfl) (.tmp rfl) (by first | exact .row rfl rfl (by first | exact .here rfl | exact .s1 rfl rfl | exact .s2 rfl rfl rfl | exact .s3 rfl rfl rfl rfl | exact .s4 rfl rfl rfl rfl rfl | exact .s5 rfl rfl rfl rfl rfl rfl | exact .s6 rfl rfl rfl rfl rfl rfl rfl | exact .s7 rfl rfl rfl rfl rfl rfl rfl rfl | exact .s8 rfl rfl rfl rfl rfl rfl rfl rfl rfl) | exact .nils) (by first | exact .row rfl | exact .vs | exact .sl rfl | exact .nils) (by first | exact hro_nil | exact hro_one rfl) Tryd.underlying22 cells_5 bytes_5 zero_5 rfl (by decide) (by rw [length_I]; omega) (by first | rfl | exact one_takeI) (by first | rfl | (simp <;> fail) | (simp; omega)) (app_I hx) (by simp only [maxLen]; omega) (by omega) rfl rfl) ?_
  refine wp rfl hC (oc_assign hC (.tmp rfl) rfl rfl) ?_
  refine WL_nil ?_
  refine W_ret ?_
  exact fin1 (.cons (.tmp rfl) .nil) rfl rfl (inSL_I _)
set_option maxRecDepth 20000 in
set_option maxHeartbeats 4000000 in
theorem fixrerr_c (n : Nat) (b : List Int) (e : Int) (hb : b.length = n) (hb8 : B8 b) (hl : n ≤ 1099511627776) (wd : Nat) (hw : wd ≤ 8) (he : e ≠ 0) : FnC Tryd.prog 34 [] [.p 0 0, .i .i64 wd] [(0, .blk 73 [.vs n (I .u8 b), .i .i64 e])] [(0, .blk 73 [.vs n (I .u8 b), .i .i64 e])] (.i .u64 (vle ([] : List Int))) := by
  have hx8 : B8 [] := by intro x hx; cases hx
  have hxl : ([] : List Int).length = 0 := rfl
  have hve : vle (([] : List Int).drop 0) = 0 := by
    have h0 := vle_end (l := ([] : List Int))
    rwa [hxl] at h0
  refine FnC.introR (N0 := 1) (T := 28) (E := [(0, .p 0 0), (1, .i .i64 wd)]) Tryd.func34 rfl (by decide) mix rfl rfl rfl (by simp) rfl ⟨(by first | exact inSL_I _ | trivial | simp), (by first | exact inSL_I _ | trivial | simp), trivial⟩ (by intro k b hm; simp only [List.mem_cons, Prod.mk.injEq, List.not_mem_nil, or_false] at hm; rcases hm with ⟨rfl, rfl⟩ <;> exact ⟨by decide, by first | exact inSL_I _ | simp⟩) (by
        intro S ha hr hw
        have s0 : S 0 := (hr 0 _ List.mem_cons_self).1
        refine ⟨by first | exact inSL_I _ | simp [s0], fun k b hm => ?_⟩
        simp only [List.mem_cons, Prod.mk.injEq, List.not_mem_nil, or_false] at hm
        rcases hm with ⟨rfl, rfl⟩
        · exact ⟨s0, by first | exact inSL_I _ | simp [s0]⟩) (fun F n0 X w ρ hC hro => ?_)
  refine wsr ?_
  refine wp rfl hC (oc_assign hC .cint rfl rfl) ?_
  refine WL_nil ?_
  refine W_seq ?_
  refine wsr ?_
  refine wp rfl hC (oc_move hC (.tmp rfl) rfl rfl) ?_
  refine wp rfl hC (ox_cmp hC rfl (.tmp rfl) .cint (r := false) (by simp only [cmpI]; exact decide_eq_false (by omega)) rfl rfl) ?_
  refine wp rfl hC (oc_move hC (.tmp rfl) rfl rfl) ?_
  refine WL_cons hC.fn (.yes rfl rfl (by decide) rfl (oc_move hC (.tmp rfl) rfl rfl)) ?_
  refine WL_cons hC.fn (.yes rfl rfl (by decide) rfl (ox_cmp hC rfl (.tmp rfl) .cint (r := false) (by simp only [cmpI]; exact decide_eq_false (by omega)) rfl rfl)) ?_
  refine wp rfl hC (ox_pick hC (.tmp rfl) .cbool (.tmp rfl) (by first | exact pick_t | exact pick_f | rfl) rfl rfl) ?_
  refine WL_nil ?_
  refine W_cond rfl (by decide) (fun hc => by cases hc) (fun _ => ?_)
  refine W_skip ?_
  refine wsr ?_
  refine wp rfl hC (ox_alloc hC zero_51 rfl rfl rfl) ?_
  refine wp rfl hC (ox_store hC (.tmp rfl) .cint rfl shp_51 (by first | rfl | exact flat_agI) (by first | exact cells1 rfl | (rw [cells_ag, length_I]; omega) | rfl | (simp <;> fail) | (simp; omega)) (by first | exact Nat.le_refl _ | exact Nat.le_of_ble_eq_true rfl | decide | (simp <;> fail) | (simp; omega)) (by first | exact put_one rfl | exact put_blkI (by first | omega | (simp <;> fail) | (simp; omega)) | exact put_rowI (by first | omega | (simp <;> fail) | (simp; omega)) | rfl) (by first | exact .here | exact .s1 rfl | exact .s2 rfl rfl | exact .s3 rfl rfl rfl | exact .s4 rfl rfl rfl rfl | exact .s5 rfl rfl rfl rfl rfl | exact .s6 rfl rfl rfl rfl rfl rfl | exact .s7 rfl rfl rfl rfl rfl rfl rfl | exact .s8 rfl rfl rfl rfl rfl rfl rfl rfl) rfl) ?_
  refine WL_nil ?_
  refine W_seq ?_
  refine wsr ?_
  refine wp rfl hC (oc_move hC (.tmp rfl) rfl rfl) ?_
  refine wp rfl hC (oc_move hC (.tmp rfl) rfl rfl) ?_
  refine wp rfl hC (oc_callG (τ := fun k => bif Nat.beq k 0 then 0 else k) (N' := 2) hC .func (.cons (.tmp rfl) (.cons (.tmp rfl) .nil)) (.own (by first | rfl | simp) (.v1 (.free (by first | exact inSL_I _ | simp)) .end)) (takeerr_c n b e hb hb8 hl wd he) glob_nil (mr_cons (by first | exact ren_blkI | exact ren_rowI | exact Blk.ren_free (by simp) _ | rfl) rfl mr_nil) (mr_cons (by first | exact ren_blkI | exact ren_rowI | exact Blk.ren_free (by simp) _ | rfl) rfl mr_nil) rfl (rd_cons rfl rd_nil) rfl rfl rfl rfl (by first | exact .inl rfl | exact .inr ⟨by simp, (nv_cons (by first | exact novsL_I _ | simp) nv_nil)⟩) rfl (dst_ok rfl rfl) (fun t => setE_cons _ _ _ _)) ?_
  refine wp rfl hC (oc_callG (v' := .f 45 [.p 2 0]) (τ := fun k => bif Nat.beq k 0 then 2 else k) (N' := 3) hC .func (.cons (.tmp rfl) .nil) (.v1 (by first | exact .free (by first | exact inSL_I _ | simp) | exact .row rfl rfl (by first | exact inSL_I _ | simp) | exact .nils | exact .sl1 rfl (by first | exact cut_I | rfl) (by first | exact inSL_I _ | simp)) .end) (backward_c 0 ([] : List Int)) glob_nil mr_nil (mr_cons (by first | exact ren_blkI | exact ren_rowI | exact Blk.ren_free (by simp) _ | rfl) rfl mr_nil) rfl rd_nil rfl rfl rfl rfl (by first | exact .inl rfl | exact .inr ⟨by simp, (nv_cons (by first | exact novsL_I _ | simp) nv_nil)⟩) rfl (dst_ok rfl rfl) (fun t => setE_cons _ _ _ _)) ?_
  refine WL_nil ?_
  refine W_blk ?_
  refine W_range (T := 19) (G := []) [0, 1, 2] hC hro rfl rfl rfl rfl Tryd.func45 rfl rfl (by decide) rfl rfl rfl glob_nil rfl (by simp) (fun k hk => by first | exact absurd hk (Nat.not_lt_zero _) | (have hk2 : k < 1 := hk; have : k = 0 ∨ k = 1 ∨ k = 2 ∨ k = 3 := (by omega); rcases this with rfl | rfl | rfl | rfl <;> first | decide | omega)) (by show ∀ k ∈ _, k < 3; decide) (fun ρ1 w1 H1 l1 r1 hI1 hR1 => ?_)
  refine wsr ?_
  refine WL_cons hI1.fn (.plain rfl (oc_load hI1 (.tmp rfl) (by first | exact .p rfl | exact .rp) shp_22 (by first | exact unit_one rfl | exact unit_I (by first | omega | (simp <;> fail) | (simp; omega)) | exact unit_c rfl (by decide) | exact unit_c rfl (by simp)) rfl rfl)) ?_
  refine WL_cons hI1.fn (.plain rfl (ox_len hI1 (.tmp rfl) (by first | exact .row rfl | exact .vs | exact .sl rfl | exact .nils) Tryd.underlying22 rfl rfl rfl)) ?_
  refine WL_cons hI1.fn (.plain rfl (oc_bin hI1 rfl (.tmp rfl) .cint (by first | exact i64_sub (by omega) | rfl) rfl rfl)) ?_
  refine WL_cons hI1.fn (.plain rfl (oc_assign hI1 (.tmp rfl) rfl rfl)) ?_
  refine WL_nil ?_
  refine W_blk ?_
  refine W_loopW (fun (ζ : Nat) => ⟨3, [(3, .i .i64 ((ζ : Int) - 1)), (0, .f (1000000000 + l1) []), (1, .p 2 0), (5000000, .rp [])], [(0, .blk 73 [.vs n (I .u8 b), .i .i64 e]), (1, .blk 51 [.i .u64 (vle (([] : List Int).drop ζ))]), (2, .blk 22 [.vs 0 (I .u8 ([] : List Int))])]⟩) (fun ζ => ζ ≤ 0) (fun ζ => ζ) (0) (Nat.le_refl _) (weakK (fun k => k) (.cons rfl (congrArg (AV.i _) (by omega)) trivial (.cons rfl (by first | exact ren_agI | exact ren_vsI | exact ren_free _ _ (by first | exact inSL_I _ | simp)) (by first | exact inSL_I _ | simp) (.cons rfl (by first | rfl | simp) (by show _ < _; decide) (.cons rfl (by first | exact ren_agI | exact ren_vsI | exact ren_free _ _ (by first | exact inSL_I _ | simp)) (by first | exact inSL_I _ | simp) .nil)))) (.cons rfl (Blk.ren_free (by simp) _) rfl (by first | exact inSL_I _ | simp) (.cons rfl (by rw [hve]; rfl) rfl (by first | exact inSL_I _ | simp) (.cons rfl (Blk.ren_free (by simp) _) rfl (by first | exact inSL_I _ | simp) .nil))) rfl rfl rfl) ?_
  intro i hR
  replace hR : i ≤ 0 := hR
  first | show W _ _ _ ⟨3, [(3, .i .i64 ((i : Int) - 1)), (0, .f (1000000000 + l1) []), (1, .p 2 0), (5000000, .rp [])], [(0, .blk 73 [.vs n (I .u8 b), .i .i64 e]), (1, .blk 51 [.i .u64 (vle (([] : List Int).drop i))]), (2, .blk 22 [.vs 0 (I .u8 ([] : List Int))])]⟩ | skip
  refine W_seq ?_
  refine wsr ?_
  refine WL_cons hI1.fn (.plain rfl (oc_move hI1 (.tmp rfl) rfl rfl)) ?_
  refine WL_cons hI1.fn (.plain rfl (ox_cmp hI1 rfl (.tmp rfl) .cint rfl rfl rfl)) ?_
  refine WL_nil ?_
  refine W_cond rfl (by decide) (fun hc => ?_) (fun hc => ?_)
  ·
    replace hc := geq_t hc
    obtain ⟨j, rfl⟩ : ∃ j, i = j + 1 := ⟨i - 1, by omega⟩
    have hxj := hx8.get j
    have hvj := vle_lt (l := ([] : List Int).drop (j + 1)) (k := 7) (fun x hx => hx8 x (List.mem_of_mem_drop hx)) (by rw [List.length_drop, hxl]; omega)
    have h256 : (256 : Int) ^ 7 = 72057594037927936 := by decide
    have hvd := vle_drop (l := ([] : List Int)) (i := j) (by omega)
    refine W_skip ?_
    refine W_seq ?_
    refine W_blk ?_
    refine wsr ?_
    refine WL_cons hI1.fn (.plain rfl (oc_move hI1 (.tmp rfl) rfl rfl)) ?_
    refine WL_cons hI1.fn (.plain rfl (oc_move hI1 (.tmp rfl) rfl rfl)) ?_
    refine WL_cons hI1.fn (.plain rfl (oc_load hI1 (.tmp rfl) (by first | exact .p rfl | exact .rp) shp_22 (by first | exact unit_one rfl | exact unit_I (by first | omega | (simp <;> fail) | (simp; omega)) | exact unit_c rfl (by decide) | exact unit_c rfl (by simp)) rfl rfl)) ?_
    refine WL_cons hI1.fn (.plain rfl (oc_move hI1 (.tmp rfl) rfl rfl)) ?_
    refine WL_cons hI1.fn (.plain rfl (ox_indexS hI1 (j := j) (.tmp rfl) (.tmp rfl) idx_22 (by omega) (by first | exact Nat.mul_one _ | rfl) (by first | exact .row rfl | exact .sl (Nat.zero_add _) | exact .sl rfl | exact .vs (by first | omega | (simp <;> fail) | (simp; omega))) (by first | omega | (simp <;> fail) | (simp; omega)) rfl rfl)) ?_
    refine WL_cons hI1.fn (.plain rfl (oc_load hI1 (.tmp rfl) (by first | exact .p rfl | exact .rp) shp_5 (by exact (unit_I (by first | omega | (simp <;> fail) | (simp; omega)))) rfl rfl)) ?_
    refine WL_yield [0, 1, 2] hR1 hI1 rfl rfl (.cons (.tmp rfl) (.cons (.tmp rfl) .nil)) rfl rfl rfl rfl rfl rfl (by decide) (by simp) (by show ∀ k ∈ _, k < 3; decide) (fun ρb wb Hb hB => ?_)
    refine W_region ?_
    refine WL_cons hB.fn (.plain rfl (oc_assign hB (.tmp rfl) rfl rfl)) ?_
    refine WL_nil ?_
    refine ⟨rfl, ?_⟩
    refine W_blk ?_
    refine W_region ?_
    refine WL_cons hB.fn (.plain rfl (oc_load hB (.tmp rfl) (by first | exact .p rfl | exact .rp) shp_51 (by first | exact unit_one rfl | exact unit_I (by first | omega | (simp <;> fail) | (simp; omega)) | exact unit_c rfl (by decide) | exact unit_c rfl (by simp)) rfl rfl)) ?_
    refine WL_cons hB.fn (.plain rfl (oc_shift hB (.inl rfl) (.tmp rfl) .cint (by first | decide | omega) (r := vle (([] : List Int).drop (j + 1)) * 256) (by rw [show (8 : Int) = ((8 : Nat) : Int) from rfl, shl_n (n := 8) rfl (by decide), show (2 : Int) ^ 8 = 256 by decide]; exact u64_conv (by omega)) rfl rfl)) ?_
    refine WL_cons hB.fn (.plain rfl (oc_move hB (.tmp rfl) rfl rfl)) ?_
    refine WL_cons hB.fn (.plain rfl (oc_conv hB (.tmp rfl) rfl Tryd.underlying51 (by first | exact u64_conv (by omega) | rfl) rfl rfl)) ?_
    refine WL_cons hB.fn (.plain rfl (oc_bin hB rfl (.tmp rfl) (.tmp rfl) (r := vle (([] : List Int).drop j)) (by rw [hvd]; exact or_addU hvj.1 (by omega) hxj) rfl rfl)) ?_
    refine WL_cons hB.fn (.plain rfl (ox_store hB (.tmp rfl) (.tmp rfl) rfl shp_51 (by first | rfl | exact flat_agI) (by first | exact cells1 rfl | (rw [cells_ag, length_I]; omega) | rfl | (simp <;> fail) | (simp; omega)) (by first | exact Nat.le_refl _ | exact Nat.le_of_ble_eq_true rfl | decide | (simp <;> fail) | (simp; omega)) (by first | exact put_one rfl | exact put_blkI (by first | omega | (simp <;> fail) | (simp; omega)) | exact put_rowI (by first | omega | (simp <;> fail) | (simp; omega)) | rfl) (by first | exact .here | exact .s1 rfl | exact .s2 rfl rfl | exact .s3 rfl rfl rfl | exact .s4 rfl rfl rfl rfl | exact .s5 rfl rfl rfl rfl rfl | exact .s6 rfl rfl rfl rfl rfl rfl | exact .s7 rfl rfl rfl rfl rfl rfl rfl | exact .s8 rfl rfl rfl rfl rfl rfl rfl rfl) rfl)) ?_
    refine WL_nil ?_
    refine rd_n (by rfl) ?_
    refine WL_cons hI1.fn (.plain rfl (oc_not hI1 (.tmp rfl) rfl rfl)) ?_
    refine WL_nil ?_
    refine W_cond rfl (by decide) (fun hc => by cases hc) (fun _ => ?_)
    refine W_skip ?_
    refine W_region ?_
    refine WL_cons hI1.fn (.plain rfl (oc_move hI1 (.tmp rfl) rfl rfl)) ?_
    refine WL_cons hI1.fn (.plain rfl (oc_bin hI1 rfl (.tmp rfl) .cint (by first | exact i64_sub (by omega) | rfl) rfl rfl)) ?_
    refine WL_cons hI1.fn (.plain rfl (oc_assign hI1 (.tmp rfl) rfl rfl)) ?_
    refine WL_nil ?_
    exact ⟨(j), (by omega), (weakK (fun k => k) (.cons rfl (congrArg (AV.i _) (by omega)) trivial (.cons rfl (by first | exact ren_agI | exact ren_vsI | exact ren_free _ _ (by first | exact inSL_I _ | simp)) (by first | exact inSL_I _ | simp) (.cons rfl (by first | rfl | simp) (by show _ < _; decide) (.cons rfl (by first | exact ren_agI | exact ren_vsI | exact ren_free _ _ (by first | exact inSL_I _ | simp)) (by first | exact inSL_I _ | simp) .nil)))) (.cons rfl (Blk.ren_free (by simp) _) rfl (by first | exact inSL_I _ | simp) (.cons rfl rfl rfl (by first | exact inSL_I _ | simp) (.cons rfl (Blk.ren_free (by simp) _) rfl (by first | exact inSL_I _ | simp) .nil))) rfl rfl rfl), (by omega)⟩
  ·
    replace hc := geq_f hc
    obtain rfl : i = 0 := by omega
    rw [List.drop_zero]
    refine W_exit ?_
    refine rq_n (.inl rfl) (by rfl) ?_
    refine wsr ?_
    refine wp rfl hC (oc_load hC (.tmp rfl) (by first | exact .p rfl | exact .rp) shp_51 (by first | exact unit_one rfl | exact unit_I (by first | omega | (simp <;> fail) | (simp; omega)) | exact unit_c rfl (by decide) | exact unit_c rfl (by simp)) rfl rfl) ?_
    refine wp rfl hC (oc_assign hC (.tmp rfl) rfl rfl) ?_
    refine WL_nil ?_
    refine W_ret ?_
    exact finK (fun k => k) (.cons (.tmp rfl) .nil) rfl (wr_cons rfl (Blk.ren_free (by simp) _) wr_nil) rfl rfl
set_option maxRecDepth 20000 in
set_option maxHeartbeats 4000000 in
theorem fixrshort_c (n : Nat) (b : List Int) (e : Int) (hb : b.length = n) (hb8 : B8 b) (hl : n ≤ 1099511627776) (wd : Nat) (hw : wd ≤ 8) (he : e = 0) (hk : n < wd) : FnC Tryd.prog 34 [] [.p 0 0, .i .i64 wd] [(0, .blk 73 [.vs n (I .u8 b), .i .i64 e])] [(0, .blk 73 [.vs n (I .u8 b), .i .i64 2])] (.i .u64 (vle ([] : List Int))) := by
  have hx8 : B8 [] := by intro x hx; cases hx
  have hxl : ([] : List Int).length = 0 := rfl
  have hve : vle (([] : List Int).drop 0) = 0 := by
    have h0 := vle_end (l := ([] : List Int))
    rwa [hxl] at h0
  refine FnC.introR (N0 := 1) (T := 28) (E := [(0, .p 0 0), (1, .i .i64 wd)]) Tryd.func34 rfl (by decide) mix rfl rfl rfl (by simp) rfl ⟨(by first | exact inSL_I _ | trivial | simp), (by first | exact inSL_I _ | trivial | simp), trivial⟩ (by intro k b hm; simp only [List.mem_cons, Prod.mk.injEq, List.not_mem_nil, or_false] at hm; rcases hm with ⟨rfl, rfl⟩ <;> exact ⟨by decide, by first | exact inSL_I _ | simp⟩) (by
        intro S ha hr hw
        have s0 : S 0 := (hr 0 _ List.mem_cons_self).1
        refine ⟨by first | exact inSL_I _ | simp [s0], fun k b hm => ?_⟩
        simp only [List.mem_cons, Prod.mk.injEq, List.not_mem_nil, or_false] at hm
        rcases hm with ⟨rfl, rfl⟩
        · exact ⟨s0, by first | exact inSL_I _ | simp [s0]⟩) (fun F n0 X w ρ hC hro => ?_)
  refine wsr ?_
  refine wp rfl hC (oc_assign hC .cint rfl rfl) ?_
  refine WL_nil ?_
  refine W_seq ?_
  refine wsr ?_
  refine wp rfl hC (oc_move hC (.tmp rfl) rfl rfl) ?_
  refine wp rfl hC (ox_cmp hC rfl (.tmp rfl) .cint (r := false) (by simp only [cmpI]; exact decide_eq_false (by omega)) rfl rfl) ?_
  refine wp rfl hC (oc_move hC (.tmp rfl) rfl rfl) ?_
  refine WL_cons hC.fn (.yes rfl rfl (by decide) rfl (oc_move hC (.tmp rfl) rfl rfl)) ?_
  refine WL_cons hC.fn (.yes rfl rfl (by decide) rfl (ox_cmp hC rfl (.tmp rfl) .cint (r := false) (by simp only [cmpI]; exact decide_eq_false (by omega)) rfl rfl)) ?_
  refine wp rfl hC (ox_pick hC (.tmp rfl) .cbool (.tmp rfl) (by first | exact pick_t | exact pick_f | rfl) rfl rfl) ?_
  refine WL_nil ?_
  refine W_cond rfl (by decide) (fun hc => by cases hc) (fun _ => ?_)
  refine W_skip ?_
  refine wsr ?_
  refine wp rfl hC (ox_alloc hC zero_51 rfl rfl rfl) ?_
  refine wp rfl hC (ox_store hC (.tmp rfl) .cint rfl shp_51 (by first | rfl | exact flat_agI) (by first | exact cells1 rfl | (rw [cells_ag, length_I]; omega) | rfl | (simp <;> fail) | (simp; omega)) (by first | exact Nat.le_refl _ | exact Nat.le_of_ble_eq_true rfl | decide | (simp <;> fail) | (simp; omega)) (by first | exact put_one rfl | exact put_blkI (by first | omega | (simp <;> fail) | (simp; omega)) | exact put_rowI (by first | omega | (simp <;> fail) | (simp; omega)) | rfl) (by first | exact .here | exact .s1 rfl | exact .s2 rfl rfl | exact .s3 rfl rfl rfl | exact .s4 rfl rfl rfl rfl | exact .s5 rfl rfl rfl rfl rfl | exact .s6 rfl rfl rfl rfl rfl rfl | exact .s7 rfl rfl rfl rfl rfl rfl rfl | exact .s8 rfl rfl rfl rfl rfl rfl rfl rfl) rfl) ?_
  refine WL_nil ?_
  refine W_seq ?_
  refine wsr ?_
  refine wp rfl hC (oc_move hC (.tmp rfl) rfl rfl) ?_
  refine wp rfl hC (oc_move hC (.tmp rfl) rfl rfl) ?_
  refine wp rfl hC (oc_callG (τ := fun k => bif Nat.beq k 0 then 0 else k) (N' := 2) hC .func (.cons (.tmp rfl) (.cons (.tmp rfl) .nil)) (.own (by first | rfl | simp) (.v1 (.free (by first | exact inSL_I _ | simp)) .end)) (takeshort_c n b e hb hb8 hl wd he hk) glob_nil (mr_cons (by first | exact ren_blkI | exact ren_rowI | exact Blk.ren_free (by simp) _ | rfl) rfl mr_nil) (mr_cons (by first | exact ren_blkI | exact ren_rowI | exact Blk.ren_free (by simp) _ | rfl) rfl mr_nil) rfl (rd_cons rfl rd_nil) rfl rfl rfl rfl (by first | exact .inl rfl | exact .inr ⟨by simp, (nv_cons (by first | exact novsL_I _ | simp) nv_nil)⟩) rfl (dst_ok rfl rfl) (fun t => setE_cons _ _ _ _)) ?_
  refine wp rfl hC (oc_callG (v' := .f 45 [.p 2 0]) (τ := fun k => bif Nat.beq k 0 then 2 else k) (N' := 3) hC .func (.cons (.tmp rfl) .nil) (.v1 (by first | exact .free (by first | exact inSL_I _ | simp) | exact .row rfl rfl (by first | exact inSL_I _ | simp) | exact .nils | exact .sl1 rfl (by first | exact cut_I | rfl) (by first | exact inSL_I _ | simp)) .end) (backward_c 0 ([] : List Int)) glob_nil mr_nil (mr_cons (by first | exact ren_blkI | exact ren_rowI | exact Blk.ren_free (by simp) _ | rfl) rfl mr_nil) rfl rd_nil rfl rfl rfl rfl (by first | exact .inl rfl | exact .inr ⟨by simp, (nv_cons (by first | exact novsL_I _ | simp) nv_nil)⟩) rfl (dst_ok rfl rfl) (fun t => setE_cons _ _ _ _)) ?_
  refine WL_nil ?_
  refine W_blk ?_
  refine W_range (T := 19) (G := []) [0, 1, 2] hC hro rfl rfl rfl rfl Tryd.func45 rfl rfl (by decide) rfl rfl rfl glob_nil rfl (by simp) (fun k hk => by first | exact absurd hk (Nat.not_lt_zero _) | (have hk2 : k < 1 := hk; have : k = 0 ∨ k = 1 ∨ k = 2 ∨ k = 3 := (by omega); rcases this with rfl | rfl | rfl | rfl <;> first | decide | omega)) (by show ∀ k ∈ _, k < 3; decide) (fun ρ1 w1 H1 l1 r1 hI1 hR1 => ?_)
  refine wsr ?_
  refine WL_cons hI1.fn (.plain rfl (oc_load hI1 (.tmp rfl) (by first | exact .p rfl | exact .rp) shp_22 (by first | exact unit_one rfl | exact unit_I (by first | omega | (simp <;> fail) | (simp; omega)) | exact unit_c rfl (by decide) | exact unit_c rfl (by simp)) rfl rfl)) ?_
  refine WL_cons hI1.fn (.plain rfl (ox_len hI1 (.tmp rfl) (by first | exact .row rfl | exact .vs | exact .sl rfl | exact .nils) Tryd.underlying22 rfl rfl rfl)) ?_
  refine WL_cons hI1.fn (.plain rfl (oc_bin hI1 rfl (.tmp rfl) .cint (by first | exact i64_sub (by omega) | rfl) rfl rfl)) ?_
  refine WL_cons hI1.fn (.plain rfl (oc_assign hI1 (.tmp rfl) rfl rfl)) ?_
  refine WL_nil ?_
  refine W_blk ?_
  refine W_loopW (fun (ζ : Nat) => ⟨3, [(3, .i .i64 ((ζ : Int) - 1)), (0, .f (1000000000 + l1) []), (1, .p 2 0), (5000000, .rp [])], [(0, .blk 73 [.vs n (I .u8 b), .i .i64 2]), (1, .blk 51 [.i .u64 (vle (([] : List Int).drop ζ))]), (2, .blk 22 [.vs 0 (I .u8 ([] : List Int))])]⟩) (fun ζ => ζ ≤ 0) (fun ζ => ζ) (0) (Nat.le_refl _) (weakK (fun k => k) (.cons rfl (congrArg (AV.i _) (by omega)) trivial (.cons rfl (by first | exact ren_agI | exact ren_vsI | exact ren_free _ _ (by first | exact inSL_I _ | simp)) (by first | exact inSL_I _ | simp) (.cons rfl (by first | rfl | simp) (by show _ < _; decide) (.cons rfl (by first | exact ren_agI | exact ren_vsI | exact ren_free _ _ (by first | exact inSL_I _ | simp)) (by first | exact inSL_I _ | simp) .nil)))) (.cons rfl (Blk.ren_free (by simp) _) rfl (by first | exact inSL_I _ | simp) (.cons rfl (by rw [hve]; rfl) rfl (by first | exact inSL_I _ | simp) (.cons rfl (Blk.ren_free (by simp) _) rfl (by first | exact inSL_I _ | simp) .nil))) rfl rfl rfl) ?_
  intro i hR
  replace hR : i ≤ 0 := hR
  first | show W _ _ _ ⟨3, [(3, .i .i64 ((i : Int) - 1)), (0, .f (1000000000 + l1) []), (1, .p 2 0), (5000000, .rp [])], [(0, .blk 73 [.vs n (I .u8 b), .i .i64 2]), (1, .blk 51 [.i .u64 (vle (([] : List Int).drop i))]), (2, .blk 22 [.vs 0 (I .u8 ([] : List Int))])]⟩ | skip
  refine W_seq ?_
  refine wsr ?_
  refine WL_cons hI1.fn (.plain rfl (oc_move hI1 (.tmp rfl) rfl rfl)) ?_
  refine WL_cons hI1.fn (.plain rfl (ox_cmp hI1 rfl (.tmp rfl) .cint rfl rfl rfl)) ?_
  refine WL_nil ?_
  refine W_cond rfl (by decide) (fun hc => ?_) (fun hc => ?_)
  ·
    replace hc := geq_t hc
    obtain ⟨j, rfl⟩ : ∃ j, i = j + 1 := ⟨i - 1, by omega⟩
    have hxj := hx8.get j
    have hvj := vle_lt (l := ([] : List Int).drop (j + 1)) (k := 7) (fun x hx => hx8 x (List.mem_of_mem_drop hx)) (by rw [List.length_drop, hxl]; omega)
    have h256 : (256 : Int) ^ 7 = 72057594037927936 := by decide
    have hvd := vle_drop (l := ([] : List Int)) (i := j) (by omega)
    refine W_skip ?_
    refine W_seq ?_
    refine W_blk ?_
    refine wsr ?_
    refine WL_cons hI1.fn (.plain rfl (oc_move hI1 (.tmp rfl) rfl rfl)) ?_
    refine WL_cons hI1.fn (.plain rfl (oc_move hI1 (.tmp rfl) rfl rfl)) ?_
    refine WL_cons hI1.fn (.plain rfl (oc_load hI1 (.tmp rfl) (by first | exact .p rfl | exact .rp) shp_22 (by first | exact unit_one rfl | exact unit_I (by first | omega | (simp <;> fail) | (simp; omega)) | exact unit_c rfl (by decide) | exact unit_c rfl (by simp)) rfl rfl)) ?_
    refine WL_cons hI1.fn (.plain rfl (oc_move hI1 (.tmp rfl) rfl rfl)) ?_
    refine WL_cons hI1.fn (.plain rfl (ox_indexS hI1 (j := j) (.tmp rfl) (.tmp rfl) idx_22 (by omega) (by first | exact Nat.mul_one _ | rfl) (by first | exact .row rfl | exact .sl (Nat.zero_add _) | exact .sl rfl | exact .vs (by first | omega | (simp <;> fail) | (simp; omega))) (by first | omega | (simp <;> fail) | (simp; omega)) rfl rfl)) ?_
    refine WL_cons hI1.fn (.plain rfl (oc_load hI1 (.tmp rfl) (by first | exact .p rfl | exact .rp) shp_5 (by exact (unit_I (by first | omega | (simp <;> fail) | (simp; omega)))) rfl rfl)) ?_
    refine WL_yield [0, 1, 2] hR1 hI1 rfl rfl (.cons (.tmp rfl) (.cons (.tmp rfl) .nil)) rfl rfl rfl rfl rfl rfl (by decide) (by simp) (by show ∀ k ∈ _, k < 3; decide) (fun ρb wb Hb hB => ?_)
    refine W_region ?_
    refine WL_cons hB.fn (.plain rfl (oc_assign hB (.tmp rfl) rfl rfl)) ?_
    refine WL_nil ?_
    refine ⟨rfl, ?_⟩
    refine W_blk ?_
    refine W_region ?_
    refine WL_cons hB.fn (.plain rfl (oc_load hB (.tmp rfl) (by first | exact .p rfl | exact .rp) shp_51 (by first | exact unit_one rfl | exact unit_I (by first | omega | (simp <;> fail) | (simp; omega)) | exact unit_c rfl (by decide) | exact unit_c rfl (by simp)) rfl rfl)) ?_
    refine WL_cons hB.fn (.plain rfl (oc_shift hB (.inl rfl) (.tmp rfl) .cint (by first | decide | omega) (r := vle (([] : List Int).drop (j + 1)) * 256) (by rw [show (8 : Int) = ((8 : Nat) : Int) from rfl, shl_n (n := 8) rfl (by decide), show (2 : Int) ^ 8 = 256 by decide]; exact u64_conv (by omega)) rfl rfl)) ?_
    refine WL_cons hB.fn (.plain rfl (oc_move hB (.tmp rfl) rfl rfl)) ?_
    refine WL_cons hB.fn (.plain rfl (oc_conv hB (.tmp rfl) rfl Tryd.underlying51 (by first | exact u64_conv (by omega) | rfl) rfl rfl)) ?_
    refine WL_cons hB.fn (.plain rfl (oc_bin hB rfl (.tmp rfl) (.tmp rfl) (r := vle (([] : List Int).drop j)) (by rw [hvd]; exact or_addU hvj.1 (by omega) hxj) rfl rfl)) ?_
    refine WL_cons hB.fn (.plain rfl (ox_store hB (.tmp rfl) (.tmp rfl) rfl shp_51 (by first | rfl | exact flat_agI) (by first | exact cells1 rfl | (rw [cells_ag, length_I]; omega) | rfl | (simp <;> fail) | (simp; omega)) (by first | exact Nat.le_refl _ | exact Nat.le_of_ble_eq_true rfl | decide | (simp <;> fail) | (simp; omega)) (by first | exact put_one rfl | exact put_blkI (by first | omega | (simp <;> fail) | (simp; omega)) | exact put_rowI (by first | omega | (simp <;> fail) | (simp; omega)) | rfl) (by first | exact .here | exact .s1 rfl | exact .s2 rfl rfl | exact .s3 rfl rfl rfl | exact .s4 rfl rfl rfl rfl | exact .s5 rfl rfl rfl rfl rfl | exact .s6 rfl rfl rfl rfl rfl rfl | exact .s7 rfl rfl rfl rfl rfl rfl rfl | exact .s8 rfl rfl rfl rfl rfl rfl rfl rfl) rfl)) ?_
    refine WL_nil ?_
    refine rd_n (by rfl) ?_
    refine WL_cons hI1.fn (.plain rfl (oc_not hI1 (.tmp rfl) rfl rfl)) ?_
    refine WL_nil ?_
    refine W_cond rfl (by decide) (fun hc => by cases hc) (fun _ => ?_)
    refine W_skip ?_
    refine W_region ?_
    refine WL_cons hI1.fn (.plain rfl (oc_move hI1 (.tmp rfl) rfl rfl)) ?_
    refine WL_cons hI1.fn (.plain rfl (oc_bin hI1 rfl (.tmp rfl) .cint (by first | exact i64_sub (by omega) | rfl) rfl rfl)) ?_
    refine WL_cons hI1.fn (.plain rfl (oc_assign hI1 (.tmp rfl) rfl rfl)) ?_
    refine WL_nil ?_
    exact ⟨(j), (by omega), (weakK (fun k => k) (.cons rfl (congrArg (AV.i _) (by omega)) trivial (.cons rfl (by first | exact ren_agI | exact ren_vsI | exact ren_free _ _ (by first | exact inSL_I _ | simp)) (by first | exact inSL_I _ | simp) (.cons rfl (by first | rfl | simp) (by show _ < _; decide) (.cons rfl (by first | exact ren_agI | exact ren_vsI | exact ren_free _ _ (by first | exact inSL_I _ | simp)) (by first | exact inSL_I _ | simp) .nil)))) (.cons rfl (Blk.ren_free (by simp) _) rfl (by first | exact inSL_I _ | simp) (.cons rfl rfl rfl (by first | exact inSL_I _ | simp) (.cons rfl (Blk.ren_free (by simp) _) rfl (by first | exact inSL_I _ | simp) .nil))) rfl rfl rfl), (by omega)⟩
  ·
    replace hc := geq_f hc
    obtain rfl : i = 0 := by omega
    rw [List.drop_zero]
    refine W_exit ?_
    refine rq_n (.inl rfl) (by rfl) ?_
    refine wsr ?_
    refine wp rfl hC (oc_load hC (.tmp rfl) (by first | exact .p rfl | exact .rp) shp_51 (by first | exact unit_one rfl | exact unit_I (by first | omega | (simp <;> fail) | (simp; omega)) | exact unit_c rfl (by decide) | exact unit_c rfl (by simp)) rfl rfl) ?_
    refine wp rfl hC (oc_assign hC (.tmp rfl) rfl rfl) ?_
    refine WL_nil ?_
    refine W_ret ?_
    exact finK (fun k => k) (.cons (.tmp rfl) .nil) rfl (wr_cons rfl (Blk.ren_free (by simp) _) wr_nil) rfl rfl
set_option maxRecDepth 20000 in
set_option maxHeartbeats 4000000 in
theorem fixr_c (n : Nat) (b : List Int) (e : Int) (hb : b.length = n) (hb8 : B8 b) (hl : n ≤ 1099511627776) (wd : Nat) (hw : wd ≤ 8) (he : e = 0) (hk : wd ≤ n) : FnC Tryd.prog 34 [] [.p 0 0, .i .i64 wd] [(0, .blk 73 [.vs n (I .u8 b), .i .i64 e])] [(0, .blk 73 [.vs (n - wd) (I .u8 (b.drop wd)), .i .i64 e])] (.i .u64 (vle (b.take wd))) := by
  have hx8 : B8 (b.take wd) := fun x hx => hb8 x (List.mem_of_mem_take hx)
  have hxl : (b.take wd).length = wd := by rw [List.length_take]; omega
  have hve : vle ((b.take wd).drop wd) = 0 := by
    have h0 := vle_end (l := (b.take wd))
    rwa [hxl] at h0
  refine FnC.introR (N0 := 1) (T := 28) (E := [(0, .p 0 0), (1, .i .i64 wd)]) Tryd.func34 rfl (by decide) mix rfl rfl rfl (by simp) rfl ⟨(by first | exact inSL_I _ | trivial | simp), (by first | exact inSL_I _ | trivial | simp), trivial⟩ (by intro k b hm; simp only [List.mem_cons, Prod.mk.injEq, List.not_mem_nil, or_false] at hm; rcases hm with ⟨rfl, rfl⟩ <;> exact ⟨by decide, by first | exact inSL_I _ | simp⟩) (by
        intro S ha hr hw
        have s0 : S 0 := (hr 0 _ List.mem_cons_self).1
        refine ⟨by first | exact inSL_I _ | simp [s0], fun k b hm => ?_⟩
        simp only [List.mem_cons, Prod.mk.injEq, List.not_mem_nil, or_false] at hm
        rcases hm with ⟨rfl, rfl⟩
        · exact ⟨s0, by first | exact inSL_I _ | simp [s0]⟩) (fun F n0 X w ρ hC hro => ?_)
  refine wsr ?_
  refine wp rfl hC (oc_assign hC .cint rfl rfl) ?_
  refine WL_nil ?_
  refine W_seq ?_
  refine wsr ?_
  refine wp rfl hC (oc_move hC (.tmp rfl) rfl rfl) ?_
  refine wp rfl hC (ox_cmp hC rfl (.tmp rfl) .cint (r := false) (by simp only [cmpI]; exact decide_eq_false (by omega)) rfl rfl) ?_
  refine wp rfl hC (oc_move hC (.tmp rfl) rfl rfl) ?_
  refine WL_cons hC.fn (.yes rfl rfl (by decide) rfl (oc_move hC (.tmp rfl) rfl rfl)) ?_
  refine WL_cons hC.fn (.yes rfl rfl (by decide) rfl (ox_cmp hC rfl (.tmp rfl) .cint (r := false) (by simp only [cmpI]; exact decide_eq_false (by omega)) rfl rfl)) ?_
  refine wp rfl hC (ox_pick hC (.tmp rfl) .cbool (.tmp rfl) (by first | exact pick_t | exact pick_f | rfl) rfl rfl) ?_
  refine WL_nil ?_
  refine W_cond rfl (by decide) (fun hc => by cases hc) (fun _ => ?_)
  refine W_skip ?_
  refine wsr ?_
  refine wp rfl hC (ox_alloc hC zero_51 rfl rfl rfl) ?_
  refine wp rfl hC (ox_store hC (.tmp rfl) .cint rfl shp_51 (by first | rfl | exact flat_agI) (by first | exact cells1 rfl | (rw [cells_ag, length_I]; omega) | rfl | (simp <;> fail) | (simp; omega)) (by first | exact Nat.le_refl _ | exact Nat.le_of_ble_eq_true rfl | decide | (simp <;> fail) | (simp; omega)) (by first | exact put_one rfl | exact put_blkI (by first | omega | (simp <;> fail) | (simp; omega)) | exact put_rowI (by first | omega | (simp <;> fail) | (simp; omega)) | rfl) (by first | exact .here | exact .s1 rfl | exact .s2 rfl rfl | exact .s3 rfl rfl rfl | exact .s4 rfl rfl rfl rfl | exact .s5 rfl rfl rfl rfl rfl | exact .s6 rfl rfl rfl rfl rfl rfl | exact .s7 rfl rfl rfl rfl rfl rfl rfl | exact .s8 rfl rfl rfl rfl rfl rfl rfl rfl) rfl) ?_
  refine WL_nil ?_
  refine W_seq ?_
  refine wsr ?_
  refine wp rfl hC (oc_move hC (.tmp rfl) rfl rfl) ?_
  refine wp rfl hC (oc_move hC (.tmp rfl) rfl rfl) ?_
  refine wp rfl hC (oc_callG (τ := fun k => bif Nat.beq k 0 then 0 else k) (N' := 2) hC .func (.cons (.tmp rfl) (.cons (.tmp rfl) .nil)) (.own (by first | rfl | simp) (.v1 (.free (by first | exact inSL_I _ | simp)) .end)) (take_c n b e hb hb8 hl wd he hk) glob_nil (mr_cons (by first | exact ren_blkI | exact ren_rowI | exact Blk.ren_free (by simp) _ | rfl) rfl mr_nil) (mr_cons (by first | exact ren_blkI | exact ren_rowI | exact Blk.ren_free (by simp) _ | rfl) rfl mr_nil) ren_vsI (rd_cons rfl rd_nil) rfl rfl rfl rfl (by first | exact .inl rfl | exact .inr ⟨by simp, (nv_cons (by first | exact novsL_I _ | simp) nv_nil)⟩) rfl (dst_ok rfl rfl) (fun t => setE_cons _ _ _ _)) ?_
  refine wp rfl hC (oc_callG (v' := .f 45 [.p 2 0]) (τ := fun k => bif Nat.beq k 0 then 2 else k) (N' := 3) hC .func (.cons (.tmp rfl) .nil) (.v1 (by first | exact .free (by first | exact inSL_I _ | simp) | exact .row rfl rfl (by first | exact inSL_I _ | simp) | exact .nils | exact .sl1 rfl (by first | exact cut_I | rfl) (by first | exact inSL_I _ | simp)) .end) (backward_c wd (b.take wd)) glob_nil mr_nil (mr_cons (by first | exact ren_blkI | exact ren_rowI | exact Blk.ren_free (by simp) _ | rfl) rfl mr_nil) rfl rd_nil rfl rfl rfl rfl (by first | exact .inl rfl | exact .inr ⟨by simp, (nv_cons (by first | exact novsL_I _ | simp) nv_nil)⟩) rfl (dst_ok rfl rfl) (fun t => setE_cons _ _ _ _)) ?_
  refine WL_nil ?_
  refine W_blk ?_
  refine W_range (T := 19) (G := []) [0, 1, 2] hC hro rfl rfl rfl rfl Tryd.func45 rfl rfl (by decide) rfl rfl rfl glob_nil rfl (by simp) (fun k hk => by first | exact absurd hk (Nat.not_lt_zero _) | (have hk2 : k < 1 := hk; have : k = 0 ∨ k = 1 ∨ k = 2 ∨ k = 3 := (by omega); rcases this with rfl | rfl | rfl | rfl <;> first | decide | omega)) (by show ∀ k ∈ _, k < 3; decide) (fun ρ1 w1 H1 l1 r1 hI1 hR1 => ?_)
  refine wsr ?_
  refine WL_cons hI1.fn (.plain rfl (oc_load hI1 (.tmp rfl) (by first | exact .p rfl | exact .rp) shp_22 (by first | exact unit_one rfl | exact unit_I (by first | omega | (simp <;> fail) | (simp; omega)) | exact unit_c rfl (by decide) | exact unit_c rfl (by simp)) rfl rfl)) ?_
  refine WL_cons hI1.fn (.plain rfl (ox_len hI1 (.tmp rfl) (by first | exact .row rfl | exact .vs | exact .sl rfl | exact .nils) Tryd.underlying22 rfl rfl rfl)) ?_
  refine WL_cons hI1.fn (.plain rfl (oc_bin hI1 rfl (.tmp rfl) .cint (by first | exact i64_sub (by omega) | rfl) rfl rfl)) ?_
  refine WL_cons hI1.fn (.plain rfl (oc_assign hI1 (.tmp rfl) rfl rfl)) ?_
  refine WL_nil ?_
  refine W_blk ?_
  refine W_loopW (fun (ζ : Nat) => ⟨3, [(3, .i .i64 ((ζ : Int) - 1)), (0, .f (1000000000 + l1) []), (1, .p 2 0), (5000000, .rp [])], [(0, .blk 73 [.vs (n - wd) (I .u8 (b.drop wd)), .i .i64 e]), (1, .blk 51 [.i .u64 (vle ((b.take wd).drop ζ))]), (2, .blk 22 [.vs wd (I .u8 (b.take wd))])]⟩) (fun ζ => ζ ≤ wd) (fun ζ => ζ) (wd) (Nat.le_refl _) (weakK (fun k => k) (.cons rfl (congrArg (AV.i _) (by omega)) trivial (.cons rfl (by first | exact ren_agI | exact ren_vsI | exact ren_free _ _ (by first | exact inSL_I _ | simp)) (by first | exact inSL_I _ | simp) (.cons rfl (by first | rfl | simp) (by show _ < _; decide) (.cons rfl (by first | exact ren_agI | exact ren_vsI | exact ren_free _ _ (by first | exact inSL_I _ | simp)) (by first | exact inSL_I _ | simp) .nil)))) (.cons rfl (Blk.ren_free (by simp) _) rfl (by first | exact inSL_I _ | simp) (.cons rfl (by rw [hve]; rfl) rfl (by first | exact inSL_I _ | simp) (.cons rfl (Blk.ren_free (by simp) _) rfl (by first | exact inSL_I _ | simp) .nil))) rfl rfl rfl) ?_
  intro i hR
  replace hR : i ≤ wd := hR
  first | show W _ _ _ ⟨3, [(3, .i .i64 ((i : Int) - 1)), (0, .f (1000000000 + l1) []), (1, .p 2 0), (5000000, .rp [])], [(0, .blk 73 [.vs (n - wd) (I .u8 (b.drop wd)), .i .i64 e]), (1, .blk 51 [.i .u64 (vle ((b.take wd).drop i))]), (2, .blk 22 [.vs wd (I .u8 (b.take wd))])]⟩ | skip
  refine W_seq ?_
  refine wsr ?_
  refine WL_cons hI1.fn (.plain rfl (oc_move hI1 (.tmp rfl) rfl rfl)) ?_
  refine WL_cons hI1.fn (.plain rfl (ox_cmp hI1 rfl (.tmp rfl) .cint rfl rfl rfl)) ?_
  refine WL_nil ?_
  refine W_cond rfl (by decide) (fun hc => ?_) (fun hc => ?_)
  ·
    replace hc := geq_t hc
    obtain ⟨j, rfl⟩ : ∃ j, i = j + 1 := ⟨i - 1, by omega⟩
    have hxj := hx8.get j
    have hvj := vle_lt (l := (b.take wd).drop (j + 1)) (k := 7) (fun x hx => hx8 x (List.mem_of_mem_drop hx)) (by rw [List.length_drop, hxl]; omega)
    have h256 : (256 : Int) ^ 7 = 72057594037927936 := by decide
    have hvd := vle_drop (l := (b.take wd)) (i := j) (by omega)
    refine W_skip ?_
    refine W_seq ?_
    refine W_blk ?_
    refine wsr ?_
    refine WL_cons hI1.fn (.plain rfl (oc_move hI1 (.tmp rfl) rfl rfl)) ?_
    refine WL_cons hI1.fn (.plain rfl (oc_move hI1 (.tmp rfl) rfl rfl)) ?_
    refine WL_cons hI1.fn (.plain rfl (oc_load hI1 (.tmp rfl) (by first | exact .p rfl | exact .rp) shp_22 (by first | exact unit_one rfl | exact unit_I (by first | omega | (simp <;> fail) | (simp; omega)) | exact unit_c rfl (by decide) | exact unit_c rfl (by simp)) rfl rfl)) ?_
    refine WL_cons hI1.fn (.plain rfl (oc_move hI1 (.tmp rfl) rfl rfl)) ?_
    refine WL_cons hI1.fn (.plain rfl (ox_indexS hI1 (j := j) (.tmp rfl) (.tmp rfl) idx_22 (by omega) (by first | exact Nat.mul_one _ | rfl) (by first | exact .row rfl | exact .sl (Nat.zero_add _) | exact .sl rfl | exact .vs (by first | omega | (simp <;> fail) | (simp; omega))) (by first | omega | (simp <;> fail) | (simp; omega)) rfl rfl)) ?_
    refine WL_cons hI1.fn (.plain rfl (oc_load hI1 (.tmp rfl) (by first | exact .p rfl | exact .rp) shp_5 (by exact (unit_I (by first | omega | (simp <;> fail) | (simp; omega)))) rfl rfl)) ?_
    refine WL_yield [0, 1, 2] hR1 hI1 rfl rfl (.cons (.tmp rfl) (.cons (.tmp rfl) .nil)) rfl rfl rfl rfl rfl rfl (by decide) (by simp) (by show ∀ k ∈ _, k < 3; decide) (fun ρb wb Hb hB => ?_)
    refine W_region ?_
    refine WL_cons hB.fn (.plain rfl (oc_assign hB (.tmp rfl) rfl rfl)) ?_
    refine WL_nil ?_
    refine ⟨rfl, ?_⟩
    refine W_blk ?_
    refine W_region ?_
    refine WL_cons hB.fn (.plain rfl (oc_load hB (.tmp rfl) (by first | exact .p rfl | exact .rp) shp_51 (by first | exact unit_one rfl | exact unit_I (by first | omega | (simp <;> fail) | (simp; omega)) | exact unit_c rfl (by decide) | exact unit_c rfl (by simp)) rfl rfl)) ?_
    refine WL_cons hB.fn (.plain rfl (oc_shift hB (.inl rfl) (.tmp rfl) .cint (by first | decide | omega) (r := vle ((b.take wd).drop (j + 1)) * 256) (by rw [show (8 : Int) = ((8 : Nat) : Int) from rfl, shl_n (n := 8) rfl (by decide), show (2 : Int) ^ 8 = 256 by decide]; exact u64_conv (by omega)) rfl rfl)) ?_
    refine WL_cons hB.fn (.plain rfl (oc_move hB (.tmp rfl) rfl rfl)) ?_
    refine WL_cons hB.fn (.plain rfl (oc_conv hB (.tmp rfl) rfl Tryd.underlying51 (by first | exact u64_conv (by omega) | rfl) rfl rfl)) ?_
    refine WL_cons hB.fn (.plain rfl (oc_bin hB rfl (.tmp rfl) (.tmp rfl) (r := vle ((b.take wd).drop j)) (by rw [hvd]; exact or_addU hvj.1 (by omega) hxj) rfl rfl)) ?_
    refine WL_cons hB.fn (.plain rfl (ox_store hB (.tmp rfl) (.tmp rfl) rfl shp_51 (by first | rfl | exact flat_agI) (by first | exact cells1 rfl | (rw [cells_ag, length_I]; omega) | rfl | (simp <;> fail) | (simp; omega)) (by first | exact Nat.le_refl _ | exact Nat.le_of_ble_eq_true rfl | decide | (simp <;> fail) | (simp; omega)) (by first | exact put_one rfl | exact put_blkI (by first | omega | (simp <;> fail) | (simp; omega)) | exact put_rowI (by first | omega | (simp <;> fail) | (simp; omega)) | rfl) (by first | exact .here | exact .s1 rfl | exact .s2 rfl rfl | exact .s3 rfl rfl rfl | exact .s4 rfl rfl rfl rfl | exact .s5 rfl rfl rfl rfl rfl | exact .s6 rfl rfl rfl rfl rfl rfl | exact .s7 rfl rfl rfl rfl rfl rfl rfl | exact .s8 rfl rfl rfl rfl rfl rfl rfl rfl) rfl)) ?_
    refine WL_nil ?_
    refine rd_n (by rfl) ?_
    refine WL_cons hI1.fn (.plain rfl (oc_not hI1 (.tmp rfl) rfl rfl)) ?_
    refine WL_nil ?_
    refine W_cond rfl (by decide) (fun hc => by cases hc) (fun _ => ?_)
    refine W_skip ?_
    refine W_region ?_
    refine WL_cons hI1.fn (.plain rfl (oc_move hI1 (.tmp rfl) rfl rfl)) ?_
    refine WL_cons hI1.fn (.plain rfl (oc_bin hI1 rfl (.tmp rfl) .cint (by first | exact i64_sub (by omega) | rfl) rfl rfl)) ?_
    refine WL_cons hI1.fn (.plain rfl (oc_assign hI1 (.tmp rfl) rfl rfl)) ?_
    refine WL_nil ?_
    exact ⟨(j), (by omega), (weakK (fun k => k) (.cons rfl (congrArg (AV.i _) (by omega)) trivial (.cons rfl (by first | exact ren_agI | exact ren_vsI | exact ren_free _ _ (by first | exact inSL_I _ | simp)) (by first | exact inSL_I _ | simp) (.cons rfl (by first | rfl | simp) (by show _ < _; decide) (.cons rfl (by first | exact ren_agI | exact ren_vsI | exact ren_free _ _ (by first | exact inSL_I _ | simp)) (by first | exact inSL_I _ | simp) .nil)))) (.cons rfl (Blk.ren_free (by simp) _) rfl (by first | exact inSL_I _ | simp) (.cons rfl rfl rfl (by first | exact inSL_I _ | simp) (.cons rfl (Blk.ren_free (by simp) _) rfl (by first | exact inSL_I _ | simp) .nil))) rfl rfl rfl), (by omega)⟩
  ·
    replace hc := geq_f hc
    obtain rfl : i = 0 := by omega
    rw [List.drop_zero]
    refine W_exit ?_
    refine rq_n (.inl rfl) (by rfl) ?_
    refine wsr ?_
    refine wp rfl hC (oc_load hC (.tmp rfl) (by first | exact .p rfl | exact .rp) shp_51 (by first | exact unit_one rfl | exact unit_I (by first | omega | (simp <;> fail) | (simp; omega)) | exact unit_c rfl (by decide) | exact unit_c rfl (by simp)) rfl rfl) ?_
    refine wp rfl hC (oc_assign hC (.tmp rfl) rfl rfl) ?_
    refine WL_nil ?_
    refine W_ret ?_
    exact finK (fun k => k) (.cons (.tmp rfl) .nil) rfl (wr_cons rfl (Blk.ren_free (by simp) _) wr_nil) rfl rfl
set_option maxRecDepth 20000 in
set_option maxHeartbeats 4000000 in
theorem fixrange_c (n : Nat) (b : List Int) (e : Int) (hb : b.length = n) (hb8 : B8 b) (hl : n ≤ 1099511627776) (width e1 : Int) (hw : width < 0 ∨ (0 ≤ width ∧ 8 < width)) (he : (e = 0 ∧ e1 = 3) ∨ (e ≠ 0 ∧ e1 = e)) : FnC Tryd.prog 34 [] [.p 0 0, .i .i64 width] [(0, .blk 73 [.vs n (I .u8 b), .i .i64 e])] [(0, .blk 73 [.vs n (I .u8 b), .i .i64 e1])] (.i .u64 0) := by
  refine FnC.introR (N0 := 1) (T := 28) (E := [(0, .p 0 0), (1, .i .i64 width)]) Tryd.func34 rfl (by decide) mix rfl rfl rfl (by simp) rfl ⟨(by first | exact inSL_I _ | trivial | simp), (by first | exact inSL_I _ | trivial | simp), trivial⟩ (by intro k b hm; simp only [List.mem_cons, Prod.mk.injEq, List.not_mem_nil, or_false] at hm; rcases hm with ⟨rfl, rfl⟩ <;> exact ⟨by decide, by first | exact inSL_I _ | simp⟩) (by
        intro S ha hr hw
        have s0 : S 0 := (hr 0 _ List.mem_cons_self).1
        refine ⟨by first | exact inSL_I _ | simp [s0], fun k b hm => ?_⟩
        simp only [List.mem_cons, Prod.mk.injEq, List.not_mem_nil, or_false] at hm
        rcases hm with ⟨rfl, rfl⟩
        · exact ⟨s0, by first | exact inSL_I _ | simp [s0]⟩) (fun F n0 X w ρ hC hro => ?_)
  refine wsr ?_
  refine wp rfl hC (oc_assign hC .cint rfl rfl) ?_
  refine WL_nil ?_
  refine W_seq ?_
  refine W_seq ?_
  rcases hw with hw | hw
  ·
    refine W_region ?_
    refine wp rfl hC (oc_move hC (.tmp rfl) rfl rfl) ?_
    refine wp rfl hC (ox_cmp hC rfl (.tmp rfl) .cint (r := true) (by simp only [cmpI]; exact decide_eq_true (by omega)) rfl rfl) ?_
    refine wp rfl hC (oc_move hC (.tmp rfl) rfl rfl) ?_
    refine WL_cons hC.fn (.no (s1 := ⟨_, (11, .tu []) :: _, _⟩) rfl rfl (by decide) rfl (by decide) (fun t ht => by cases ht; exact ⟨blt_lt rfl, blt_lt rfl⟩) (fun t => setE_cons _ _ _ _) rfl rfl) ?_
    refine WL_cons hC.fn (.no (s1 := ⟨_, (12, .tu []) :: _, _⟩) rfl rfl (by decide) rfl (by decide) (fun t ht => by cases ht; exact ⟨blt_lt rfl, blt_lt rfl⟩) (fun t => setE_cons _ _ _ _) rfl rfl) ?_
    refine wp rfl hC (ox_pick hC (.tmp rfl) .cbool (.tmp rfl) (by first | exact pick_t | exact pick_f | rfl) rfl rfl) ?_
    refine WL_nil ?_
    refine W_cond rfl (by decide) (fun _ => ?_) (fun hc => by cases hc)
    refine wsr ?_
    refine wp rfl hC (oc_move hC (.tmp rfl) rfl rfl) ?_
    refine wp rfl hC (oc_callG (τ := fun k => bif Nat.beq k 0 then 0 else k) (N' := 1) hC .func (.cons (.tmp rfl) (.cons .cint .nil)) (.own (by first | rfl | simp) (.v1 (.free (by first | exact inSL_I _ | simp)) .end)) (fail_c n b e hb hb8 hl 3 e1 he) glob_nil (mr_cons (by first | exact ren_blkI | exact ren_rowI | exact Blk.ren_free (by simp) _ | rfl) rfl mr_nil) (mr_cons (by first | exact ren_blkI | exact ren_rowI | exact Blk.ren_free (by simp) _ | rfl) rfl mr_nil) rfl (rd_cons rfl rd_nil) rfl rfl rfl rfl (by first | exact .inl rfl | exact .inr ⟨by simp, (nv_cons (by first | exact novsL_I _ | simp) nv_nil)⟩) rfl (dst_ok rfl rfl) (fun t => setE_cons _ _ _ _)) ?_
    refine WL_nil ?_
    refine wsr ?_
    refine wp rfl hC (oc_assign hC .cint rfl rfl) ?_
    refine WL_nil ?_
    refine W_ret ?_
    exact finK (fun k => k) (.cons (.tmp rfl) .nil) rfl (wr_cons rfl (Blk.ren_free (by simp) _) wr_nil) rfl rfl
  ·
    refine W_region ?_
    refine wp rfl hC (oc_move hC (.tmp rfl) rfl rfl) ?_
    refine wp rfl hC (ox_cmp hC rfl (.tmp rfl) .cint (r := false) (by simp only [cmpI]; exact decide_eq_false (by omega)) rfl rfl) ?_
    refine wp rfl hC (oc_move hC (.tmp rfl) rfl rfl) ?_
    refine WL_cons hC.fn (.yes rfl rfl (by decide) rfl (oc_move hC (.tmp rfl) rfl rfl)) ?_
    refine WL_cons hC.fn (.yes rfl rfl (by decide) rfl (ox_cmp hC rfl (.tmp rfl) .cint (r := true) (by simp only [cmpI]; exact decide_eq_true (by omega)) rfl rfl)) ?_
    refine wp rfl hC (ox_pick hC (.tmp rfl) .cbool (.tmp rfl) (by first | exact pick_t | exact pick_f | rfl) rfl rfl) ?_
    refine WL_nil ?_
    refine W_cond rfl (by decide) (fun _ => ?_) (fun hc => by cases hc)
    refine wsr ?_
    refine wp rfl hC (oc_move hC (.tmp rfl) rfl rfl) ?_
    refine wp rfl hC (oc_callG (τ := fun k => bif Nat.beq k 0 then 0 else k) (N' := 1) hC .func (.cons (.tmp rfl) (.cons .cint .nil)) (.own (by first | rfl | simp) (.v1 (.free (by first | exact inSL_I _ | simp)) .end)) (fail_c n b e hb hb8 hl 3 e1 he) glob_nil (mr_cons (by first | exact ren_blkI | exact ren_rowI | exact Blk.ren_free (by simp) _ | rfl) rfl mr_nil) (mr_cons (by first | exact ren_blkI | exact ren_rowI | exact Blk.ren_free (by simp) _ | rfl) rfl mr_nil) rfl (rd_cons rfl rd_nil) rfl rfl rfl rfl (by first | exact .inl rfl | exact .inr ⟨by simp, (nv_cons (by first | exact novsL_I _ | simp) nv_nil)⟩) rfl (dst_ok rfl rfl) (fun t => setE_cons _ _ _ _)) ?_
    refine WL_nil ?_
    refine wsr ?_
    refine wp rfl hC (oc_assign hC .cint rfl rfl) ?_
    refine WL_nil ?_
    refine W_ret ?_
    exact finK (fun k => k) (.cons (.tmp rfl) .nil) rfl (wr_cons rfl (Blk.ren_free (by simp) _) wr_nil) rfl rfl
end Go.Proofs.YtibldhfgapjpfaaDoor
