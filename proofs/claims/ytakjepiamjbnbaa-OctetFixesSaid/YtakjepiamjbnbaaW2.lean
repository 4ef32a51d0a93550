/- Own work, printed by a program of this claim: walks through functions of the program. -/
import Derived.Test.YtakjepiamjbnbaaW1
import Derived.Test.YtakjepiamjbnbaaProg
import Derived.KernelRfl
set_option linter.unusedSimpArgs false
set_option linter.unusedVariables false
namespace Go.Proofs.Ytakjepiamjbnbaa
open Go.Sk Go.RowKit
attribute [local simp] AV.inSL AV.inS inSL_I Blk.inS Blk.cs AV.novs AV.novsL novsL_I AV.ren AV.cells AV.one lk tuAV
theorem bld_45 : bldOK Try.prog 45 = true := by kernel_rfl
theorem fld_45_0 : fld Try.prog 45 0 = some (0, false, 1) := by kernel_rfl
theorem fld_45_1 : fld Try.prog 45 1 = some (1, false, 1) := by kernel_rfl
theorem shp_45 : shp Try.prog 45 = some (true, 2) := by kernel_rfl
theorem zero_45 : zeroAV Try.prog 45 = some [.nils, .i .i64 0] := by kernel_rfl

set_option maxRecDepth 20000 in
set_option maxHeartbeats 4000000 in
theorem rputlt_c (f nC : Nat) (n : Int) (hn : (n = nC ∧ nC ≤ 1099511627775) ∨ ((n < 0 ∨ 1099511627775 < n) ∧ nC = 0)) (h7 : nC < 128) : FnC Try.prog 19 [] [.i .i64 n] [] [(0, .row 5 1 (putN f nC).length (I .u8 (putN f nC)))] (.row 0) := by
  have hp := putN_lt (f := f) h7
  have hp1 : (putN f nC).length = 1 := by rw [hp]; rfl
  refine FnC.introR (N0 := 0) (T := 23) (E := [(0, .i .i64 n)]) Try.func19 rfl (by decide) mix rfl rfl rfl (by simp) rfl ⟨(by first | exact inSL_I _ | trivial | simp), trivial⟩ (by simp) (by
        intro S ha hr hw
        have s0 : S 0 := hw 0 (by first | (simp; done) | (show some _ ≠ none; simp)) (by first | rfl | simp)
        refine ⟨by first | exact inSL_I _ | simp [s0], fun k b hm => ?_⟩
        simp only [List.mem_cons, Prod.mk.injEq, List.not_mem_nil, or_false] at hm
        rcases hm with ⟨rfl, rfl⟩
        · exact ⟨s0, by first | exact inSL_I _ | simp [s0]⟩) (fun F n0 X w ρ hC hro => ?_)
  refine W_seq ?_
  refine W_region ?_
  refine WL_cons hC.fn (.plain rfl (oc_assign hC .cnils rfl rfl)) ?_
  refine WL_nil ?_
  refine W_seq ?_
  refine W_seq ?_
  rcases (show (n = nC ∧ nC ≤ 1099511627775) ∨ (n < 0 ∧ nC = 0) ∨ (0 ≤ n ∧ 1099511627775 < n ∧ nC = 0) by omega) with h | h | h
  ·
    refine W_region ?_
    refine WL_cons hC.fn (.plain rfl (oc_move hC (.tmp rfl) rfl rfl)) ?_
    refine WL_cons hC.fn (.plain rfl (ox_cmp hC rfl (.tmp rfl) .cint (r := false) (by simp only [cmpI]; exact decide_eq_false (by omega)) rfl rfl)) ?_
    refine WL_cons hC.fn (.plain rfl (oc_move hC (.tmp rfl) rfl rfl)) ?_
    refine WL_cons hC.fn (.yes rfl rfl (by decide) rfl (oc_move hC (.tmp rfl) rfl rfl)) ?_
    refine WL_cons hC.fn (.yes rfl rfl (by decide) rfl (ox_cmp hC rfl (.tmp rfl) .cint (r := false) (by simp only [cmpI]; exact decide_eq_false (by omega)) rfl rfl)) ?_
    refine WL_cons hC.fn (.plain rfl (ox_pick hC (.tmp rfl) .cbool (.tmp rfl) (by first | exact pick_t | exact pick_f | rfl) rfl rfl)) ?_
    refine WL_nil ?_
    refine W_cond rfl (by decide) (fun hc => by cases hc) (fun _ => ?_)
    refine W_skip ?_
    refine W_seq ?_
    refine W_seq ?_
    refine W_region ?_
    refine WL_cons hC.fn (.plain rfl (oc_move hC (.tmp rfl) rfl rfl)) ?_
    refine WL_cons hC.fn (.plain rfl (ox_cmp hC rfl (.tmp rfl) .cint (r := true) (by simp only [cmpI]; exact decide_eq_true (by omega)) rfl rfl)) ?_
    refine WL_nil ?_
    refine W_cond rfl (by decide) (fun _ => ?_) (fun hc => by cases hc)
    refine W_seq ?_
    refine W_region ?_
    refine WL_cons hC.fn (.plain rfl (oc_move hC (.tmp rfl) rfl rfl)) ?_
    refine WL_cons hC.fn (.plain rfl (oc_conv hC (.tmp rfl) rfl Try.underlying5 (r := (nC : Int)) (by rw [u8_conv (by omega)]; omega) rfl rfl)) ?_
    refine WL_cons hC.fn (.plain rfl (ox_litRI (k := .u8) (ws := [(nC : Int)]) hC (.cons (.tmp rfl) .nil) Try.underlying22 cells_5 zero_5 rfl (by decide) rfl rfl (by first | rfl | simp) rfl rfl rfl)) ?_
    refine WL_cons hC.fn (.plain rfl (oc_assign hC (.tmp rfl) rfl rfl)) ?_
    refine WL_nil ?_
    refine W_ret ?_
    exact fin1 (.cons (.tmp rfl) .nil) rfl (by rw [hp1, hp]; rfl) (inSL_I _)
  ·
    refine W_region ?_
    refine WL_cons hC.fn (.plain rfl (oc_move hC (.tmp rfl) rfl rfl)) ?_
    refine WL_cons hC.fn (.plain rfl (ox_cmp hC rfl (.tmp rfl) .cint (r := true) (by simp only [cmpI]; exact decide_eq_true (by omega)) rfl rfl)) ?_
    refine WL_cons hC.fn (.plain rfl (oc_move hC (.tmp rfl) rfl rfl)) ?_
    refine WL_cons hC.fn (.no (s1 := ⟨_, (6, .tu []) :: _, _⟩) rfl rfl (by decide) rfl (by decide) (fun t ht => by cases ht; exact ⟨blt_lt rfl, blt_lt rfl⟩) (fun t => setE_cons _ _ _ _) rfl rfl) ?_
    refine WL_cons hC.fn (.no (s1 := ⟨_, (7, .tu []) :: _, _⟩) rfl rfl (by decide) rfl (by decide) (fun t ht => by cases ht; exact ⟨blt_lt rfl, blt_lt rfl⟩) (fun t => setE_cons _ _ _ _) rfl rfl) ?_
    refine WL_cons hC.fn (.plain rfl (ox_pick hC (.tmp rfl) .cbool (.tmp rfl) (by first | exact pick_t | exact pick_f | rfl) rfl rfl)) ?_
    refine WL_nil ?_
    refine W_cond rfl (by decide) (fun _ => ?_) (fun hc => by cases hc)
    refine W_region ?_
    refine WL_cons hC.fn (.plain rfl (oc_assign hC .cint rfl rfl)) ?_
    refine WL_nil ?_
    refine W_seq ?_
    refine W_seq ?_
    refine W_region ?_
    refine WL_cons hC.fn (.plain rfl (oc_move hC (.tmp rfl) rfl rfl)) ?_
    refine WL_cons hC.fn (.plain rfl (ox_cmp hC rfl (.tmp rfl) .cint (r := true) (by simp only [cmpI]; exact decide_eq_true (by omega)) rfl rfl)) ?_
    refine WL_nil ?_
    refine W_cond rfl (by decide) (fun _ => ?_) (fun hc => by cases hc)
    refine W_seq ?_
    refine W_region ?_
    refine WL_cons hC.fn (.plain rfl (oc_move hC (.tmp rfl) rfl rfl)) ?_
    refine WL_cons hC.fn (.plain rfl (oc_conv hC (.tmp rfl) rfl Try.underlying5 (r := (nC : Int)) (by rw [u8_conv (by omega)]; omega) rfl rfl)) ?_
    refine WL_cons hC.fn (.plain rfl (ox_litRI (k := .u8) (ws := [(nC : Int)]) hC (.cons (.tmp rfl) .nil) Try.underlying22 cells_5 zero_5 rfl (by decide) rfl rfl (by first | rfl | simp) rfl rfl rfl)) ?_
    refine WL_cons hC.fn (.plain rfl (oc_assign hC (.tmp rfl) rfl rfl)) ?_
    refine WL_nil ?_
    refine W_ret ?_
    exact fin1 (.cons (.tmp rfl) .nil) rfl (by rw [hp1, hp]; rfl) (inSL_I _)
  ·
    refine W_region ?_
    refine WL_cons hC.fn (.plain rfl (oc_move hC (.tmp rfl) rfl rfl)) ?_
    refine WL_cons hC.fn (.plain rfl (ox_cmp hC rfl (.tmp rfl) .cint (r := false) (by simp only [cmpI]; exact decide_eq_false (by omega)) rfl rfl)) ?_
    refine WL_cons hC.fn (.plain rfl (oc_move hC (.tmp rfl) rfl rfl)) ?_
    refine WL_cons hC.fn (.yes rfl rfl (by decide) rfl (oc_move hC (.tmp rfl) rfl rfl)) ?_
    refine WL_cons hC.fn (.yes rfl rfl (by decide) rfl (ox_cmp hC rfl (.tmp rfl) .cint (r := true) (by simp only [cmpI]; exact decide_eq_true (by omega)) rfl rfl)) ?_
    refine WL_cons hC.fn (.plain rfl (ox_pick hC (.tmp rfl) .cbool (.tmp rfl) (by first | exact pick_t | exact pick_f | rfl) rfl rfl)) ?_
    refine WL_nil ?_
    refine W_cond rfl (by decide) (fun _ => ?_) (fun hc => by cases hc)
    refine W_region ?_
    refine WL_cons hC.fn (.plain rfl (oc_assign hC .cint rfl rfl)) ?_
    refine WL_nil ?_
    refine W_seq ?_
    refine W_seq ?_
    refine W_region ?_
    refine WL_cons hC.fn (.plain rfl (oc_move hC (.tmp rfl) rfl rfl)) ?_
    refine WL_cons hC.fn (.plain rfl (ox_cmp hC rfl (.tmp rfl) .cint (r := true) (by simp only [cmpI]; exact decide_eq_true (by omega)) rfl rfl)) ?_
    refine WL_nil ?_
    refine W_cond rfl (by decide) (fun _ => ?_) (fun hc => by cases hc)
    refine W_seq ?_
    refine W_region ?_
    refine WL_cons hC.fn (.plain rfl (oc_move hC (.tmp rfl) rfl rfl)) ?_
    refine WL_cons hC.fn (.plain rfl (oc_conv hC (.tmp rfl) rfl Try.underlying5 (r := (nC : Int)) (by rw [u8_conv (by omega)]; omega) rfl rfl)) ?_
    refine WL_cons hC.fn (.plain rfl (ox_litRI (k := .u8) (ws := [(nC : Int)]) hC (.cons (.tmp rfl) .nil) Try.underlying22 cells_5 zero_5 rfl (by decide) rfl rfl (by first | rfl | simp) rfl rfl rfl)) ?_
    refine WL_cons hC.fn (.plain rfl (oc_assign hC (.tmp rfl) rfl rfl)) ?_
    refine WL_nil ?_
    refine W_ret ?_
    exact fin1 (.cons (.tmp rfl) .nil) rfl (by rw [hp1, hp]; rfl) (inSL_I _)
set_option maxRecDepth 20000 in
set_option maxHeartbeats 4000000 in
theorem rputge_c (f nC : Nat) (n : Int) (hn : n = nC) (hm : nC ≤ 1099511627775) (h7 : ¬ nC < 128) (ih : FnC Try.prog 19 [] [.i .i64 ((nC / 128 : Nat) : Int)] [] [(0, .row 5 1 (putN f (nC / 128)).length (I .u8 (putN f (nC / 128))))] (.row 0)) (hf : f ≤ 6) : FnC Try.prog 19 [] [.i .i64 n] [] [(0, .row 5 1 (putN (f + 1) nC).length (I .u8 (putN (f + 1) nC)))] (.row 0) := by
  have hp := putN_ge (f := f) h7
  have hpl : (putN (f + 1) nC).length = 1 + (putN f (nC / 128)).length := by rw [hp, List.length_cons]; omega
  have hll := length_putN f (nC / 128)
  refine FnC.introR (N0 := 0) (T := 23) (E := [(0, .i .i64 n)]) Try.func19 rfl (by decide) mix rfl rfl rfl (by simp) rfl ⟨(by first | exact inSL_I _ | trivial | simp), trivial⟩ (by simp) (by
        intro S ha hr hw
        have s0 : S 0 := hw 0 (by first | (simp; done) | (show some _ ≠ none; simp)) (by first | rfl | simp)
        refine ⟨by first | exact inSL_I _ | simp [s0], fun k b hm => ?_⟩
        simp only [List.mem_cons, Prod.mk.injEq, List.not_mem_nil, or_false] at hm
        rcases hm with ⟨rfl, rfl⟩
        · exact ⟨s0, by first | exact inSL_I _ | simp [s0]⟩) (fun F n0 X w ρ hC hro => ?_)
  refine W_seq ?_
  refine W_region ?_
  refine WL_cons hC.fn (.plain rfl (oc_assign hC .cnils rfl rfl)) ?_
  refine WL_nil ?_
  refine W_seq ?_
  refine W_seq ?_
  refine W_region ?_
  refine WL_cons hC.fn (.plain rfl (oc_move hC (.tmp rfl) rfl rfl)) ?_
  refine WL_cons hC.fn (.plain rfl (ox_cmp hC rfl (.tmp rfl) .cint (r := false) (by simp only [cmpI]; exact decide_eq_false (by omega)) rfl rfl)) ?_
  refine WL_cons hC.fn (.plain rfl (oc_move hC (.tmp rfl) rfl rfl)) ?_
  refine WL_cons hC.fn (.yes rfl rfl (by decide) rfl (oc_move hC (.tmp rfl) rfl rfl)) ?_
  refine WL_cons hC.fn (.yes rfl rfl (by decide) rfl (ox_cmp hC rfl (.tmp rfl) .cint (r := false) (by simp only [cmpI]; exact decide_eq_false (by omega)) rfl rfl)) ?_
  refine WL_cons hC.fn (.plain rfl (ox_pick hC (.tmp rfl) .cbool (.tmp rfl) (by first | exact pick_t | exact pick_f | rfl) rfl rfl)) ?_
  refine WL_nil ?_
  refine W_cond rfl (by decide) (fun hc => by cases hc) (fun _ => ?_)
  refine W_skip ?_
  refine W_seq ?_
  refine W_seq ?_
  refine W_region ?_
  refine WL_cons hC.fn (.plain rfl (oc_move hC (.tmp rfl) rfl rfl)) ?_
  refine WL_cons hC.fn (.plain rfl (ox_cmp hC rfl (.tmp rfl) .cint (r := false) (by simp only [cmpI]; exact decide_eq_false (by omega)) rfl rfl)) ?_
  refine WL_nil ?_
  refine W_cond rfl (by decide) (fun hc => by cases hc) (fun _ => ?_)
  refine W_skip ?_
  refine W_seq ?_
  refine W_region ?_
  refine WL_cons hC.fn (.plain rfl (oc_move hC (.tmp rfl) rfl rfl)) ?_
  refine WL_cons hC.fn (.plain rfl (oc_div hC (.inr rfl) (.tmp rfl) .cint (by first | decide | omega) (r := ((nC % 128 : Nat) : Int)) (by rw [hn]; exact nrem (y := 128)) rfl rfl)) ?_
  refine WL_cons hC.fn (.plain rfl (oc_bin hC rfl .cint (.tmp rfl) (r := ((128 + nC % 128 : Nat) : Int)) (nadd (x := 128) (by omega)) rfl rfl)) ?_
  refine WL_cons hC.fn (.plain rfl (oc_conv hC (.tmp rfl) rfl Try.underlying5 (by first | exact u8_conv (by omega) | rfl) rfl rfl)) ?_
  refine WL_cons hC.fn (.plain rfl (ox_litRI (k := .u8) (ws := [((128 + nC % 128 : Nat) : Int)]) hC (.cons (.tmp rfl) .nil) Try.underlying22 cells_5 zero_5 rfl (by decide) rfl rfl (by first | rfl | simp) rfl rfl rfl)) ?_
  refine WL_cons hC.fn (.plain rfl (oc_move hC (.tmp rfl) rfl rfl)) ?_
  refine WL_cons hC.fn (.plain rfl (oc_div hC (.inl rfl) (.tmp rfl) .cint (by first | decide | omega) (r := ((nC / 128 : Nat) : Int)) (by rw [hn]; exact nquo (y := 128) (by omega) (by decide)) rfl rfl)) ?_
  refine WL_cons hC.fn (.plain rfl (oc_callN hC (.cons (.tmp rfl) .nil) (.cons1 (.free (by first | exact inSL_I _ | simp)) (.same (by first | exact inSL_I _ | simp))) (ih) glob_nil (by first | exact inSL_I _ | simp) rfl (by first | exact .inl rfl | exact .inr ⟨by simp, novsL_I _⟩ | exact .inr ⟨by simp, by simp⟩) rfl rfl)) ?_
  refine WL_cons hC.fn (.plain rfl (ox_append (n' := (putN (f + 1) nC).length) (cs' := I .u8 (putN (f + 1) nC)) hC (.tmp rfl) (.tmp rfl) (by first | exact .row rfl rfl (by first | exact .here rfl | exact .there (.here rfl) rfl | exact .there (.there (.here rfl) rfl) rfl | exact .there (.there (.there (.here rfl) rfl) rfl) rfl | exact .there (.there (.there (.there (.here rfl) rfl) rfl) rfl) rfl | exact .there (.there (.there (.there (.there (.here rfl) rfl) rfl) rfl) rfl) rfl | exact .there (.there (.there (.there (.there (.there (.here rfl) rfl) rfl) rfl) rfl) rfl) rfl | exact .there (.there (.there (.there (.there (.there (.there (.here rfl) rfl) rfl) rfl) rfl) rfl) rfl) rfl | exact .there (.there (.there (.there (.there (.there (.there (.there (.here rfl) rfl) rfl) rfl) rfl) rfl) rfl) rfl) rfl | exact .there (.there (.there (.there (.there (.there (.there (.there (.there (.here rfl) rfl) rfl) rfl) rfl) rfl) rfl) rfl) rfl) rfl | exact .there (.there (.there (.there (.there (.there (.there (.there (.there (.there (.here rfl) rfl) rfl) rfl) rfl) rfl) rfl) rfl) rfl) rfl) rfl | exact .there (.there (.there (.there (.there (.there (.there (.there (.there (.there (.there (.here rfl) rfl) rfl) rfl) rfl) rfl) rfl) rfl) rfl) rfl) rfl) rfl | exact .there (.there (.there (.there (.there (.there (.there (.there (.there (.there (.there (.there (.here rfl) rfl) rfl) rfl) rfl) rfl) rfl) rfl) rfl) rfl) rfl) rfl) rfl | exact .there (.there (.there (.there (.there (.there (.there (.there (.there (.there (.there (.there (.there (.here rfl) rfl) rfl) rfl) rfl) rfl) rfl) rfl) rfl) rfl) rfl) rfl) rfl) rfl | exact .there (.there (.there (.there (.there (.there (.there (.there (.there (.there (.there (.there (.there (.there (.here rfl) rfl) rfl) rfl) rfl) rfl) rfl) rfl) rfl) rfl) rfl) rfl) rfl) rfl) rfl | exact .there (.there (.there (.there (.there (.there (.there (.there (.there (.there (.there (.there (.there (.there (.there (.here rfl) rfl) rfl) rfl) rfl) rfl) rfl) rfl) rfl) rfl) rfl) rfl) rfl) rfl) rfl) rfl) | exact .nils) (by first | exact .row rfl | exact .vs | exact .sl rfl | exact .nils) (by first | exact hro_nil | exact hro_one rfl) Try.underlying22 cells_5 bytes_5 zero_5 rfl (by decide) (by rw [length_I]; omega) (by first | rfl | exact one_takeI) hpl.symm (by rw [hp]; exact app_I (us := [((128 + nC % 128 : Nat) : Int)]) rfl) (by simp only [maxLen]; omega) (by omega) rfl rfl)) ?_
  refine WL_cons hC.fn (.plain rfl (oc_assign hC (.tmp rfl) rfl rfl)) ?_
  refine WL_nil ?_
  refine W_ret ?_
  exact fin1 (.cons (.tmp rfl) .nil) rfl rfl (inSL_I _)
theorem rputN_c : ∀ (f nC : Nat) (n : Int), n = nC → nC ≤ 1099511627775 → nC < 128 ^ (f + 1) → f ≤ 6 → FnC Try.prog 19 [] [.i .i64 n] [] [(0, .row 5 1 (putN f nC).length (I .u8 (putN f nC)))] (.row 0)
  | 0, nC, n, hn, hm, hl, _ => rputlt_c 0 nC n (.inl ⟨hn, hm⟩) (by omega)
  | f + 1, nC, n, hn, hm, hl, hf => by
    by_cases h7 : nC < 128
    · exact rputlt_c (f + 1) nC n (.inl ⟨hn, hm⟩) h7
    · refine rputge_c f nC n hn hm h7 (rputN_c f (nC / 128) _ rfl (by omega) ?_ (by omega)) (by omega)
      rw [Nat.pow_succ] at hl
      exact Nat.div_lt_of_lt_mul (by rw [Nat.mul_comm]; exact hl)
theorem rput_c (nC : Nat) (n : Int) (hn : (n = nC ∧ nC ≤ 1099511627775) ∨ ((n < 0 ∨ 1099511627775 < n) ∧ nC = 0)) : FnC Try.prog 19 [] [.i .i64 n] [] [(0, .row 5 1 (putV nC).length (I .u8 (putV nC)))] (.row 0) := by
  have e : putV nC = putN 6 nC := by unfold putV; rfl
  rw [e]
  rcases hn with ⟨h1, h2⟩ | ⟨h1, h2⟩
  · exact rputN_c 6 nC n h1 h2 (by omega) (by omega)
  · exact rputlt_c 6 nC n (.inr ⟨h1, h2⟩) (by omega)
set_option maxRecDepth 20000 in
set_option maxHeartbeats 4000000 in
theorem rputb_c (nx : Nat) (x : List Int) (hx : x.length = nx) (hlx : nx ≤ 1099511627) : FnC Try.prog 21 [] [.vs nx (I .u8 x)] [] [(0, .row 5 1 ((putV nx).length + nx) (I .u8 (putV nx ++ x)))] (.row 0) := by
  have hlp := length_putN 6 nx
  have hlv : (putV nx).length ≤ 7 := by unfold putV; exact hlp
  refine FnC.introR (N0 := 0) (T := 8) (E := [(0, .vs nx (I .u8 x))]) Try.func21 rfl (by decide) mix rfl rfl rfl (by simp) rfl ⟨(by first | exact inSL_I _ | trivial | simp), trivial⟩ (by simp) (by
        intro S ha hr hw
        have s0 : S 0 := hw 0 (by first | (simp; done) | (show some _ ≠ none; simp)) (by first | rfl | simp)
        refine ⟨by first | exact inSL_I _ | simp [s0], fun k b hm => ?_⟩
        simp only [List.mem_cons, Prod.mk.injEq, List.not_mem_nil, or_false] at hm
        rcases hm with ⟨rfl, rfl⟩
        · exact ⟨s0, by first | exact inSL_I _ | simp [s0]⟩) (fun F n0 X w ρ hC hro => ?_)
  refine W_seq ?_
  refine W_region ?_
  refine WL_cons hC.fn (.plain rfl (oc_assign hC .cnils rfl rfl)) ?_
  refine WL_nil ?_
  refine W_seq ?_
  refine W_region ?_
  refine WL_cons hC.fn (.plain rfl (oc_move hC (.tmp rfl) rfl rfl)) ?_
  refine WL_cons hC.fn (.plain rfl (ox_len hC (.tmp rfl) (by first | exact .row rfl | exact .vs | exact .sl rfl | exact .nils) Try.underlying22 rfl rfl rfl)) ?_
  refine WL_cons hC.fn (.plain rfl (oc_callN hC (.cons (.tmp rfl) .nil) (.cons1 (.free (by first | exact inSL_I _ | simp)) (.same (by first | exact inSL_I _ | simp))) (rput_c nx nx (.inl ⟨rfl, by omega⟩)) glob_nil (by first | exact inSL_I _ | simp) rfl (by first | exact .inl rfl | exact .inr ⟨by simp, novsL_I _⟩ | exact .inr ⟨by simp, by simp⟩) rfl rfl)) ?_
  refine WL_cons hC.fn (.plain rfl (oc_move hC (.tmp rfl) rfl rfl)) ?_
  refine WL_cons hC.fn (.plain rfl (ox_append hC (.tmp rfl) (.tmp rfl) (by first | exact .row rfl rfl (by first | exact .here rfl | exact .there (.here rfl) rfl | exact .there (.there (.here rfl) rfl) rfl | exact .there (.there (.there (.here rfl) rfl) rfl) rfl | exact .there (.there (.there (.there (.here rfl) rfl) rfl) rfl) rfl | exact .there (.there (.there (.there (.there (.here rfl) rfl) rfl) rfl) rfl) rfl | exact .there (.there (.there (.there (.there (.there (.here rfl) rfl) rfl) rfl) rfl) rfl) rfl | exact .there (.there (.there (.there (.there (.there (.there (.here rfl) rfl) rfl) rfl) rfl) rfl) rfl) rfl | exact .there (.there (.there (.there (.there (.there (.there (.there (.here rfl) rfl) rfl) rfl) rfl) rfl) rfl) rfl) rfl | exact .there (.there (.there (.there (.there (.there (.there (.there (.there (.here rfl) rfl) rfl) rfl) rfl) rfl) rfl) rfl) rfl) rfl | exact .there (.there (.there (.there (.there (.there (.there (.there (.there (.there (.here rfl) rfl) rfl) rfl) rfl) rfl) rfl) rfl) rfl) rfl) rfl | exact .there (.there (.there (.there (.there (.there (.there (.there (.there (.there (.there (.here rfl) rfl) rfl) rfl) rfl) rfl) rfl) rfl) rfl) rfl) rfl) rfl | exact .there (.there (.there (.there (.there (.there (.there (.there (.there (.there (.there (.there (.here rfl) rfl) rfl) rfl) rfl) rfl) rfl) rfl) rfl) rfl) rfl) rfl) rfl | exact .there (.there (.there (.there (.there (.there (.there (.there (.there (.there (.there (.there (.there (.here rfl) rfl) rfl) rfl) rfl) rfl) rfl) rfl) rfl) rfl) rfl) rfl) rfl) rfl | exact .there (.there (.there (.there (.there (.there (.there (.there (.there (.there (.there (.there (.there (.there (.here rfl) rfl) rfl) rfl) rfl) rfl) rfl) rfl) rfl) rfl) rfl) rfl) rfl) rfl) rfl | exact .there (.there (.there (.there (.there (.there (.there (.there (.there (.there (.there (.there (.there (.there (.there (.here rfl) rfl) rfl) rfl) rfl) rfl) rfl) rfl) rfl) rfl) rfl) rfl) rfl) rfl) rfl) rfl) | exact .nils) (by first | exact .row rfl | exact .vs | exact .sl rfl | exact .nils) (by first | exact hro_nil | exact hro_one rfl) Try.underlying22 cells_5 bytes_5 zero_5 rfl (by decide) (by rw [length_I]; omega) (by first | rfl | exact one_takeI) (by first | rfl | (simp <;> fail) | (simp; omega)) (app_I hx) (by simp only [maxLen]; omega) (by omega) rfl rfl)) ?_
  refine WL_cons hC.fn (.plain rfl (oc_assign hC (.tmp rfl) rfl rfl)) ?_
  refine WL_nil ?_
  refine W_ret ?_
  exact fin1 (.cons (.tmp rfl) .nil) rfl rfl (inSL_I _)
set_option maxRecDepth 20000 in
set_option maxHeartbeats 4000000 in
theorem rfix_c (n wd : Nat) (width : Int) (hn64 : n < 18446744073709551616) (hw : (width = wd ∧ wd ≤ 8) ∨ ((width < 0 ∨ 8 < width) ∧ wd = 0)) : FnC Try.prog 22 [] [.i .u64 n, .i .i64 width] [] [(0, .row 5 1 wd (I .u8 (fixL n wd)))] (.row 0) := by
  refine FnC.introR (N0 := 0) (T := 25) (E := [(0, .i .u64 n), (1, .i .i64 width)]) Try.func22 rfl (by decide) mix rfl rfl rfl (by simp) rfl ⟨(by first | exact inSL_I _ | trivial | simp), (by first | exact inSL_I _ | trivial | simp), trivial⟩ (by simp) (by
        intro S ha hr hw
        have s0 : S 0 := hw 0 (by first | (simp; done) | (show some _ ≠ none; simp)) (by first | rfl | simp)
        refine ⟨by first | exact inSL_I _ | simp [s0], fun k b hm => ?_⟩
        simp only [List.mem_cons, Prod.mk.injEq, List.not_mem_nil, or_false] at hm
        rcases hm with ⟨rfl, rfl⟩
        · exact ⟨s0, by first | exact inSL_I _ | simp [s0]⟩) (fun F n0 X w ρ hC hro => ?_)
  refine W_seq ?_
  refine W_region ?_
  refine WL_cons hC.fn (.plain rfl (oc_assign hC .cnils rfl rfl)) ?_
  refine WL_nil ?_
  refine W_seq ?_
  refine W_region ?_
  refine WL_cons hC.fn (.plain rfl (oc_assign hC .cnils rfl rfl)) ?_
  refine WL_nil ?_
  refine W_seq ?_
  refine W_seq ?_
  refine W_region ?_
  refine WL_cons hC.fn (.plain rfl (oc_assign hC .cint rfl rfl)) ?_
  refine WL_nil ?_
  refine W_blk ?_
  refine W_weak (weak_nil (t := 5) (e := 5) (sz := 1) rfl) ?_
  refine W_loopW (fun (ζ : Nat) => ⟨1, [(0, .i .u64 ((n / 256 ^ ζ : Nat) : Int)), (1, .i .i64 width), (5, .row 0), (6, .i .i64 ζ)], [(0, .row 5 1 ζ (I .u8 (fixL n ζ)))]⟩) (fun ζ => ζ ≤ wd) (fun ζ => wd - ζ) (0) (Nat.zero_le _) (weak (fun k => k) (.cons rfl (congrArg (AV.i _) (by simp)) trivial (.cons rfl (by first | rfl | exact congrArg (AV.i _) (by omega) | exact congrArg (AV.i _) (by simp; omega)) trivial (.cons rfl (by first | rfl | simp) (by show _ < _; decide) (.cons rfl rfl trivial .nil)))) (.cons rfl (renRow (l' := []) rfl (by unfold fixL; rfl)) rfl (by first | exact inSL_I _ | simp) .nil) rfl rfl rfl) ?_
  intro i hR
  replace hR : i ≤ wd := hR
  first | show W _ _ _ ⟨1, [(0, .i .u64 ((n / 256 ^ i : Nat) : Int)), (1, .i .i64 width), (5, .row 0), (6, .i .i64 i)], [(0, .row 5 1 i (I .u8 (fixL n i)))]⟩ | skip
  refine W_seq ?_
  refine W_seq ?_
  rcases (show ((i : Int) < width ∧ width ≤ 8 ∧ i < wd) ∨ ((i : Int) < width ∧ 8 < width ∧ i = wd) ∨ (width ≤ i ∧ i = wd) by omega) with h | h | h
  ·
    refine W_region ?_
    refine WL_cons hC.fn (.plain rfl (oc_move hC (.tmp rfl) rfl rfl)) ?_
    refine WL_cons hC.fn (.plain rfl (oc_move hC (.tmp rfl) rfl rfl)) ?_
    refine WL_cons hC.fn (.plain rfl (ox_cmp hC rfl (.tmp rfl) (.tmp rfl) (r := true) (by simp only [cmpI]; exact decide_eq_true (by omega)) rfl rfl)) ?_
    refine WL_cons hC.fn (.plain rfl (oc_move hC (.tmp rfl) rfl rfl)) ?_
    refine WL_cons hC.fn (.yes rfl rfl (by decide) rfl (oc_move hC (.tmp rfl) rfl rfl)) ?_
    refine WL_cons hC.fn (.yes rfl rfl (by decide) rfl (ox_cmp hC rfl (.tmp rfl) .cint (r := true) (by simp only [cmpI]; exact decide_eq_true (by omega)) rfl rfl)) ?_
    refine WL_cons hC.fn (.plain rfl (ox_pick hC (.tmp rfl) (.tmp rfl) .cbool (by first | exact pick_t | exact pick_f | rfl) rfl rfl)) ?_
    refine WL_nil ?_
    refine W_cond rfl (by decide) (fun _ => ?_) (fun hc => by cases hc)
    refine W_skip ?_
    refine W_seq ?_
    refine W_blk ?_
    refine W_seq ?_
    refine W_region ?_
    refine WL_cons hC.fn (.plain rfl (oc_move hC (.tmp rfl) rfl rfl)) ?_
    refine WL_cons hC.fn (.plain rfl (oc_move hC (.tmp rfl) rfl rfl)) ?_
    refine WL_cons hC.fn (.plain rfl (oc_div hC (.inr rfl) (.tmp rfl) .cint (by first | decide | omega) (r := ((n / 256 ^ i % 256 : Nat) : Int)) nrem_u rfl rfl)) ?_
    refine WL_cons hC.fn (.plain rfl (oc_conv hC (.tmp rfl) rfl Try.underlying5 (r := ((n / 256 ^ i % 256 : Nat) : Int)) (u8_conv (by omega)) rfl rfl)) ?_
    refine WL_cons hC.fn (.plain rfl (ox_lit hC (.cons (.tmp rfl) .nil) Try.underlying22 cells_5 zero_5 rfl (by decide) rfl rfl (by first | rfl | simp) rfl rfl)) ?_
    refine WL_cons hC.fn (.plain rfl (ox_append hC (.tmp rfl) (.tmp rfl) (by first | exact .row rfl rfl (by first | exact .here rfl | exact .there (.here rfl) rfl | exact .there (.there (.here rfl) rfl) rfl | exact .there (.there (.there (.here rfl) rfl) rfl) rfl | exact .there (.there (.there (.there (.here rfl) rfl) rfl) rfl) rfl | exact .there (.there (.there (.there (.there (.here rfl) rfl) rfl) rfl) rfl) rfl | exact .there (.there (.there (.there (.there (.there (.here rfl) rfl) rfl) rfl) rfl) rfl) rfl | exact .there (.there (.there (.there (.there (.there (.there (.here rfl) rfl) rfl) rfl) rfl) rfl) rfl) rfl | exact .there (.there (.there (.there (.there (.there (.there (.there (.here rfl) rfl) rfl) rfl) rfl) rfl) rfl) rfl) rfl | exact .there (.there (.there (.there (.there (.there (.there (.there (.there (.here rfl) rfl) rfl) rfl) rfl) rfl) rfl) rfl) rfl) rfl | exact .there (.there (.there (.there (.there (.there (.there (.there (.there (.there (.here rfl) rfl) rfl) rfl) rfl) rfl) rfl) rfl) rfl) rfl) rfl | exact .there (.there (.there (.there (.there (.there (.there (.there (.there (.there (.there (.here rfl) rfl) rfl) rfl) rfl) rfl) rfl) rfl) rfl) rfl) rfl) rfl | exact .there (.there (.there (.there (.there (.there (.there (.there (.there (.there (.there (.there (.here rfl) rfl) rfl) rfl) rfl) rfl) rfl) rfl) rfl) rfl) rfl) rfl) rfl | exact .there (.there (.there (.there (.there (.there (.there (.there (.there (.there (.there (.there (.there (.here rfl) rfl) rfl) rfl) rfl) rfl) rfl) rfl) rfl) rfl) rfl) rfl) rfl) rfl | exact .there (.there (.there (.there (.there (.there (.there (.there (.there (.there (.there (.there (.there (.there (.here rfl) rfl) rfl) rfl) rfl) rfl) rfl) rfl) rfl) rfl) rfl) rfl) rfl) rfl) rfl | exact .there (.there (.there (.there (.there (.there (.there (.there (.there (.there (.there (.there (.there (.there (.there (.here rfl) rfl) rfl) rfl) rfl) rfl) rfl) rfl) rfl) rfl) rfl) rfl) rfl) rfl) rfl) rfl) | exact .nils) (by first | exact .row rfl | exact .vs | exact .sl rfl | exact .nils) (by first | exact hro_nil | exact hro_one rfl) Try.underlying22 cells_5 bytes_5 zero_5 rfl (by decide) (by first | (simp <;> fail) | (simp; omega)) (by first | rfl | exact one_takeI) (by first | rfl | (simp <;> fail) | (simp; omega)) app_1 (by simp only [maxLen]; omega) (by omega) rfl rfl)) ?_
    refine WL_cons hC.fn (.plain rfl (oc_assign hC (.tmp rfl) rfl rfl)) ?_
    refine WL_nil ?_
    refine W_region ?_
    refine WL_cons hC.fn (.plain rfl (oc_move hC (.tmp rfl) rfl rfl)) ?_
    refine WL_cons hC.fn (.plain rfl (oc_div hC (.inl rfl) (.tmp rfl) .cint (by first | decide | omega) (r := ((n / 256 ^ i : Nat) : Int) / 2 ^ 8) (fix_quo hn64) rfl rfl)) ?_
    refine WL_cons hC.fn (.plain rfl (oc_assign hC (.tmp rfl) rfl rfl)) ?_
    refine WL_nil ?_
    refine W_region ?_
    refine WL_cons hC.fn (.plain rfl (oc_move hC (.tmp rfl) rfl rfl)) ?_
    refine WL_cons hC.fn (.plain rfl (oc_bin hC rfl (.tmp rfl) .cint (by first | exact i64_add (by omega) | rfl) rfl rfl)) ?_
    refine WL_cons hC.fn (.plain rfl (oc_assign hC (.tmp rfl) rfl rfl)) ?_
    refine WL_nil ?_
    exact ⟨(i + 1), (by omega), (weak (fun k => bif Nat.beq k 0 then 1 else k) (.cons rfl (congrArg (AV.i _) (fix_next.trans rfl)) trivial (.cons rfl (by first | rfl | exact congrArg (AV.i _) (by omega) | exact congrArg (AV.i _) (by simp; omega)) trivial (.cons rfl (by first | rfl | simp) (by show _ < _; decide) (.cons rfl (by first | rfl | exact congrArg (AV.i _) (by omega) | exact congrArg (AV.i _) (by simp; omega)) trivial .nil)))) (.cons rfl (renRow rfl fixL_succ_s) rfl (by first | exact inSL_I _ | simp) .nil) rfl rfl rfl), (by omega)⟩
  ·
    obtain ⟨_, _, rfl⟩ := h
    refine W_region ?_
    refine WL_cons hC.fn (.plain rfl (oc_move hC (.tmp rfl) rfl rfl)) ?_
    refine WL_cons hC.fn (.plain rfl (oc_move hC (.tmp rfl) rfl rfl)) ?_
    refine WL_cons hC.fn (.plain rfl (ox_cmp hC rfl (.tmp rfl) (.tmp rfl) (r := true) (by simp only [cmpI]; exact decide_eq_true (by omega)) rfl rfl)) ?_
    refine WL_cons hC.fn (.plain rfl (oc_move hC (.tmp rfl) rfl rfl)) ?_
    refine WL_cons hC.fn (.yes rfl rfl (by decide) rfl (oc_move hC (.tmp rfl) rfl rfl)) ?_
    refine WL_cons hC.fn (.yes rfl rfl (by decide) rfl (ox_cmp hC rfl (.tmp rfl) .cint (r := false) (by simp only [cmpI]; exact decide_eq_false (by omega)) rfl rfl)) ?_
    refine WL_cons hC.fn (.plain rfl (ox_pick hC (.tmp rfl) (.tmp rfl) .cbool (by first | exact pick_t | exact pick_f | rfl) rfl rfl)) ?_
    refine WL_nil ?_
    refine W_cond rfl (by decide) (fun hc => by cases hc) (fun _ => ?_)
    refine W_exit ?_
    refine W_seq ?_
    refine W_region ?_
    refine WL_cons hC.fn (.plain rfl (oc_move hC (.tmp rfl) rfl rfl)) ?_
    refine WL_cons hC.fn (.plain rfl (oc_assign hC (.tmp rfl) rfl rfl)) ?_
    refine WL_nil ?_
    refine W_ret ?_
    exact fin1 (.cons (.tmp rfl) .nil) rfl rfl (inSL_I _)
  ·
    obtain ⟨_, rfl⟩ := h
    refine W_region ?_
    refine WL_cons hC.fn (.plain rfl (oc_move hC (.tmp rfl) rfl rfl)) ?_
    refine WL_cons hC.fn (.plain rfl (oc_move hC (.tmp rfl) rfl rfl)) ?_
    refine WL_cons hC.fn (.plain rfl (ox_cmp hC rfl (.tmp rfl) (.tmp rfl) (r := false) (by simp only [cmpI]; exact decide_eq_false (by omega)) rfl rfl)) ?_
    refine WL_cons hC.fn (.plain rfl (oc_move hC (.tmp rfl) rfl rfl)) ?_
    refine WL_cons hC.fn (.no (s1 := ⟨_, (11, .tu []) :: _, _⟩) rfl rfl (by decide) rfl (by decide) (fun t ht => by cases ht; exact ⟨blt_lt rfl, blt_lt rfl⟩) (fun t => setE_cons _ _ _ _) rfl rfl) ?_
    refine WL_cons hC.fn (.no (s1 := ⟨_, (12, .tu []) :: _, _⟩) rfl rfl (by decide) rfl (by decide) (fun t ht => by cases ht; exact ⟨blt_lt rfl, blt_lt rfl⟩) (fun t => setE_cons _ _ _ _) rfl rfl) ?_
    refine WL_cons hC.fn (.plain rfl (ox_pick hC (.tmp rfl) (.tmp rfl) .cbool (by first | exact pick_t | exact pick_f | rfl) rfl rfl)) ?_
    refine WL_nil ?_
    refine W_cond rfl (by decide) (fun hc => by cases hc) (fun _ => ?_)
    refine W_exit ?_
    refine W_seq ?_
    refine W_region ?_
    refine WL_cons hC.fn (.plain rfl (oc_move hC (.tmp rfl) rfl rfl)) ?_
    refine WL_cons hC.fn (.plain rfl (oc_assign hC (.tmp rfl) rfl rfl)) ?_
    refine WL_nil ?_
    refine W_ret ?_
    exact fin1 (.cons (.tmp rfl) .nil) rfl rfl (inSL_I _)
set_option maxRecDepth 20000 in
set_option maxHeartbeats 4000000 in
theorem rend_c (n : Nat) (b : List Int) (e : Int) (hb : b.length = n) (hb8 : B8 b) (hl : n ≤ 1099511627776) (v : Int) (hv : (e = 0 ∧ 0 < n ∧ v = 5) ∨ (e = 0 ∧ n = 0 ∧ v = 0) ∨ (e ≠ 0 ∧ v = e)) : FnC Try.prog 27 [] [.ag [.vs n (I .u8 b), .i .i64 e]] [] [] (.i .i64 v) := by
  refine FnC.introR (N0 := 0) (T := 14) (E := [(0, .ag [.vs n (I .u8 b), .i .i64 e])]) Try.func27 rfl (by decide) mix rfl rfl rfl (by simp) rfl ⟨(by first | exact inSL_I _ | trivial | simp), trivial⟩ (by simp) (by intro S _ _ h; simp) (fun F n0 X w ρ hC hro => ?_)
  refine W_seq ?_
  refine W_region ?_
  refine WL_cons hC.fn (.plain rfl (ox_box hC (.tmp rfl) (by first | rfl | exact flat_agI) (by first | exact cells_ag | rfl) rfl rfl)) ?_
  refine WL_cons hC.fn (.plain rfl (oc_assign hC .cint rfl rfl)) ?_
  refine WL_nil ?_
  refine W_seq ?_
  refine W_seq ?_
  rcases hv with ⟨h1, h2, h3⟩ | ⟨h1, h2, h3⟩ | ⟨h1, h3⟩
  ·
    refine W_region ?_
    refine WL_cons hC.fn (.plain rfl (oc_field hC (.tmp rfl) fld_45_1 (by decide) (by first | exact .p (Nat.zero_add _) | exact .p rfl | exact .rp (by decide)) rfl rfl)) ?_
    refine WL_cons hC.fn (.plain rfl (oc_load hC (.tmp rfl) (by first | exact .p rfl | exact .rp) shp_27 (by first | exact unit_one rfl | exact unit_I (by first | omega | (simp; omega)) | exact unit_c rfl (by decide) | exact unit_c rfl (by simp)) rfl rfl)) ?_
    refine WL_cons hC.fn (.plain rfl (ox_cmp hC rfl (.tmp rfl) .cint (r := true) (by simp only [cmpI]; exact decide_eq_true (by omega)) rfl rfl)) ?_
    refine WL_cons hC.fn (.plain rfl (oc_move hC (.tmp rfl) rfl rfl)) ?_
    refine WL_cons hC.fn (.yes rfl rfl (by decide) rfl (oc_field hC (.tmp rfl) fld_45_0 (by decide) (by first | exact .p (Nat.zero_add _) | exact .p rfl | exact .rp (by decide)) rfl rfl)) ?_
    refine WL_cons hC.fn (.yes rfl rfl (by decide) rfl (oc_load hC (.tmp rfl) (by first | exact .p rfl | exact .rp) shp_22 (by first | exact unit_one rfl | exact unit_I (by first | omega | (simp; omega)) | exact unit_c rfl (by decide) | exact unit_c rfl (by simp)) rfl rfl)) ?_
    refine WL_cons hC.fn (.yes rfl rfl (by decide) rfl (ox_len hC (.tmp rfl) (by first | exact .row rfl | exact .vs | exact .sl rfl | exact .nils) Try.underlying22 rfl rfl rfl)) ?_
    refine WL_cons hC.fn (.yes rfl rfl (by decide) rfl (ox_cmp hC rfl (.tmp rfl) .cint (r := true) (by simp only [cmpI]; exact decide_eq_true (by omega)) rfl rfl)) ?_
    refine WL_cons hC.fn (.plain rfl (ox_pick hC (.tmp rfl) (.tmp rfl) .cbool (by first | exact pick_t | exact pick_f | rfl) rfl rfl)) ?_
    refine WL_nil ?_
    refine W_cond rfl (by decide) (fun _ => ?_) (fun hc => by cases hc)
    refine W_seq ?_
    refine W_region ?_
    refine WL_cons hC.fn (.plain rfl (oc_assign hC .cint rfl rfl)) ?_
    refine WL_nil ?_
    refine W_ret ?_
    exact fin0 (.cons (.tmp rfl) .nil) (by first | exact congrArg (AV.i .i64) h3.symm | exact congrArg (AV.i .i64) (h1.trans h3.symm)) (by simp)
  ·
    refine W_region ?_
    refine WL_cons hC.fn (.plain rfl (oc_field hC (.tmp rfl) fld_45_1 (by decide) (by first | exact .p (Nat.zero_add _) | exact .p rfl | exact .rp (by decide)) rfl rfl)) ?_
    refine WL_cons hC.fn (.plain rfl (oc_load hC (.tmp rfl) (by first | exact .p rfl | exact .rp) shp_27 (by first | exact unit_one rfl | exact unit_I (by first | omega | (simp; omega)) | exact unit_c rfl (by decide) | exact unit_c rfl (by simp)) rfl rfl)) ?_
    refine WL_cons hC.fn (.plain rfl (ox_cmp hC rfl (.tmp rfl) .cint (r := true) (by simp only [cmpI]; exact decide_eq_true (by omega)) rfl rfl)) ?_
    refine WL_cons hC.fn (.plain rfl (oc_move hC (.tmp rfl) rfl rfl)) ?_
    refine WL_cons hC.fn (.yes rfl rfl (by decide) rfl (oc_field hC (.tmp rfl) fld_45_0 (by decide) (by first | exact .p (Nat.zero_add _) | exact .p rfl | exact .rp (by decide)) rfl rfl)) ?_
    refine WL_cons hC.fn (.yes rfl rfl (by decide) rfl (oc_load hC (.tmp rfl) (by first | exact .p rfl | exact .rp) shp_22 (by first | exact unit_one rfl | exact unit_I (by first | omega | (simp; omega)) | exact unit_c rfl (by decide) | exact unit_c rfl (by simp)) rfl rfl)) ?_
    refine WL_cons hC.fn (.yes rfl rfl (by decide) rfl (ox_len hC (.tmp rfl) (by first | exact .row rfl | exact .vs | exact .sl rfl | exact .nils) Try.underlying22 rfl rfl rfl)) ?_
    refine WL_cons hC.fn (.yes rfl rfl (by decide) rfl (ox_cmp hC rfl (.tmp rfl) .cint (r := false) (by simp only [cmpI]; exact decide_eq_false (by omega)) rfl rfl)) ?_
    refine WL_cons hC.fn (.plain rfl (ox_pick hC (.tmp rfl) (.tmp rfl) .cbool (by first | exact pick_t | exact pick_f | rfl) rfl rfl)) ?_
    refine WL_nil ?_
    refine W_cond rfl (by decide) (fun hc => by cases hc) (fun _ => ?_)
    refine W_skip ?_
    refine W_seq ?_
    refine W_region ?_
    refine WL_cons hC.fn (.plain rfl (oc_field hC (.tmp rfl) fld_45_1 (by decide) (by first | exact .p (Nat.zero_add _) | exact .p rfl | exact .rp (by decide)) rfl rfl)) ?_
    refine WL_cons hC.fn (.plain rfl (oc_load hC (.tmp rfl) (by first | exact .p rfl | exact .rp) shp_27 (by first | exact unit_one rfl | exact unit_I (by first | omega | (simp; omega)) | exact unit_c rfl (by decide) | exact unit_c rfl (by simp)) rfl rfl)) ?_
    refine WL_cons hC.fn (.plain rfl (oc_assign hC (.tmp rfl) rfl rfl)) ?_
    refine WL_nil ?_
    refine W_ret ?_
    exact fin0 (.cons (.tmp rfl) .nil) (by first | exact congrArg (AV.i .i64) h3.symm | exact congrArg (AV.i .i64) (h1.trans h3.symm)) (by simp)
  ·
    refine W_region ?_
    refine WL_cons hC.fn (.plain rfl (oc_field hC (.tmp rfl) fld_45_1 (by decide) (by first | exact .p (Nat.zero_add _) | exact .p rfl | exact .rp (by decide)) rfl rfl)) ?_
    refine WL_cons hC.fn (.plain rfl (oc_load hC (.tmp rfl) (by first | exact .p rfl | exact .rp) shp_27 (by first | exact unit_one rfl | exact unit_I (by first | omega | (simp; omega)) | exact unit_c rfl (by decide) | exact unit_c rfl (by simp)) rfl rfl)) ?_
    refine WL_cons hC.fn (.plain rfl (ox_cmp hC rfl (.tmp rfl) .cint (r := false) (by simp only [cmpI]; exact decide_eq_false (by omega)) rfl rfl)) ?_
    refine WL_cons hC.fn (.plain rfl (oc_move hC (.tmp rfl) rfl rfl)) ?_
    refine WL_cons hC.fn (.no (s1 := ⟨_, (7, .tu []) :: _, _⟩) rfl rfl (by decide) rfl (by decide) (fun t ht => by cases ht; exact ⟨blt_lt rfl, blt_lt rfl⟩) (fun t => setE_cons _ _ _ _) rfl rfl) ?_
    refine WL_cons hC.fn (.no (s1 := ⟨_, (8, .tu []) :: _, _⟩) rfl rfl (by decide) rfl (by decide) (fun t ht => by cases ht; exact ⟨blt_lt rfl, blt_lt rfl⟩) (fun t => setE_cons _ _ _ _) rfl rfl) ?_
    refine WL_cons hC.fn (.no (s1 := ⟨_, (9, .tu []) :: _, _⟩) rfl rfl (by decide) rfl (by decide) (fun t ht => by cases ht; exact ⟨blt_lt rfl, blt_lt rfl⟩) (fun t => setE_cons _ _ _ _) rfl rfl) ?_
    refine WL_cons hC.fn (.no (s1 := ⟨_, (10, .tu []) :: _, _⟩) rfl rfl (by decide) rfl (by decide) (fun t ht => by cases ht; exact ⟨blt_lt rfl, blt_lt rfl⟩) (fun t => setE_cons _ _ _ _) rfl rfl) ?_
    refine WL_cons hC.fn (.plain rfl (ox_pick hC (.tmp rfl) (.tmp rfl) .cbool (by first | exact pick_t | exact pick_f | rfl) rfl rfl)) ?_
    refine WL_nil ?_
    refine W_cond rfl (by decide) (fun hc => by cases hc) (fun _ => ?_)
    refine W_skip ?_
    refine W_seq ?_
    refine W_region ?_
    refine WL_cons hC.fn (.plain rfl (oc_field hC (.tmp rfl) fld_45_1 (by decide) (by first | exact .p (Nat.zero_add _) | exact .p rfl | exact .rp (by decide)) rfl rfl)) ?_
    refine WL_cons hC.fn (.plain rfl (oc_load hC (.tmp rfl) (by first | exact .p rfl | exact .rp) shp_27 (by first | exact unit_one rfl | exact unit_I (by first | omega | (simp; omega)) | exact unit_c rfl (by decide) | exact unit_c rfl (by simp)) rfl rfl)) ?_
    refine WL_cons hC.fn (.plain rfl (oc_assign hC (.tmp rfl) rfl rfl)) ?_
    refine WL_nil ?_
    refine W_ret ?_
    exact fin0 (.cons (.tmp rfl) .nil) (by first | exact congrArg (AV.i .i64) h3.symm | exact congrArg (AV.i .i64) (h1.trans h3.symm)) (by simp)
set_option maxRecDepth 20000 in
set_option maxHeartbeats 4000000 in
theorem rtakeerr_c (n : Nat) (b : List Int) (e : Int) (hb : b.length = n) (hb8 : B8 b) (hl : n ≤ 1099511627776) (k : Int) (he : e ≠ 0) : FnC Try.prog 37 [] [.ag [.vs n (I .u8 b), .i .i64 e], .i .i64 k] [] [] (.tu [.ag [.vs n (I .u8 b), .i .i64 e], .nils]) := by
  refine FnC.introR (N0 := 0) (T := 27) (E := [(0, .ag [.vs n (I .u8 b), .i .i64 e]), (1, .i .i64 k)]) Try.func37 rfl (by decide) mix rfl rfl rfl (by simp) rfl ⟨(by first | exact inSL_I _ | trivial | simp), (by first | exact inSL_I _ | trivial | simp), trivial⟩ (by simp) (by intro S _ _ h; simp) (fun F n0 X w ρ hC hro => ?_)
  refine W_seq ?_
  refine W_region ?_
  refine WL_cons hC.fn (.plain rfl (ox_box hC (.tmp rfl) (by first | rfl | exact flat_agI) (by first | exact cells_ag | rfl) rfl rfl)) ?_
  refine WL_cons hC.fn (.plain rfl (ox_alloc hC zero_45 rfl rfl rfl)) ?_
  refine WL_cons hC.fn (.plain rfl (oc_assign hC .cnils rfl rfl)) ?_
  refine WL_nil ?_
  refine W_seq ?_
  refine W_seq ?_
  refine W_region ?_
  refine WL_cons hC.fn (.plain rfl (oc_field hC (.tmp rfl) fld_45_1 (by decide) (by first | exact .p (Nat.zero_add _) | exact .p rfl | exact .rp (by decide)) rfl rfl)) ?_
  refine WL_cons hC.fn (.plain rfl (oc_load hC (.tmp rfl) (by first | exact .p rfl | exact .rp) shp_27 (by first | exact unit_one rfl | exact unit_I (by first | omega | (simp; omega)) | exact unit_c rfl (by decide) | exact unit_c rfl (by simp)) rfl rfl)) ?_
  refine WL_cons hC.fn (.plain rfl (ox_cmp hC rfl (.tmp rfl) .cint (r := true) (by simp only [cmpI]; exact decide_eq_true (by omega)) rfl rfl)) ?_
  refine WL_nil ?_
  refine W_cond rfl (by decide) (fun _ => ?_) (fun hc => by cases hc)
  refine W_seq ?_
  refine W_region ?_
  refine WL_cons hC.fn (.plain rfl (oc_load hC (v := .ag [.vs n (I .u8 b), .i .i64 e]) (.tmp rfl) (by first | exact .p rfl | exact .rp) shp_45 (by exact (unit_agg rfl)) rfl rfl)) ?_
  refine WL_cons hC.fn (.plain rfl (ox_store hC (.tmp rfl) (.tmp rfl) rfl shp_45 (by first | rfl | exact flat_agI) rfl (by first | exact Nat.le_refl _ | exact Nat.le_of_ble_eq_true rfl | decide | (simp <;> fail) | (simp; omega)) rfl (by first | exact .here | exact .there (.here) rfl | exact .there (.there (.here) rfl) rfl | exact .there (.there (.there (.here) rfl) rfl) rfl | exact .there (.there (.there (.there (.here) rfl) rfl) rfl) rfl | exact .there (.there (.there (.there (.there (.here) rfl) rfl) rfl) rfl) rfl | exact .there (.there (.there (.there (.there (.there (.here) rfl) rfl) rfl) rfl) rfl) rfl | exact .there (.there (.there (.there (.there (.there (.there (.here) rfl) rfl) rfl) rfl) rfl) rfl) rfl | exact .there (.there (.there (.there (.there (.there (.there (.there (.here) rfl) rfl) rfl) rfl) rfl) rfl) rfl) rfl | exact .there (.there (.there (.there (.there (.there (.there (.there (.there (.here) rfl) rfl) rfl) rfl) rfl) rfl) rfl) rfl) rfl) rfl)) ?_
  refine WL_cons hC.fn (.plain rfl (oc_assign hC .cnils rfl rfl)) ?_
  refine WL_nil ?_
  refine W_ret ?_
  exact fin0 (.cons (.cell rfl (.p rfl) shp_45 (unit_agg rfl)) (.cons (.tmp rfl) .nil)) rfl (by simp)
set_option maxRecDepth 20000 in
set_option maxHeartbeats 4000000 in
theorem rtakeshort_c (n : Nat) (b : List Int) (e : Int) (hb : b.length = n) (hb8 : B8 b) (hl : n ≤ 1099511627776) (k : Nat) (he : e = 0) (hk : n < k) : FnC Try.prog 37 [] [.ag [.vs n (I .u8 b), .i .i64 e], .i .i64 k] [] [] (.tu [.ag [.vs n (I .u8 b), .i .i64 2], .nils]) := by
  refine FnC.introR (N0 := 0) (T := 27) (E := [(0, .ag [.vs n (I .u8 b), .i .i64 e]), (1, .i .i64 k)]) Try.func37 rfl (by decide) mix rfl rfl rfl (by simp) rfl ⟨(by first | exact inSL_I _ | trivial | simp), (by first | exact inSL_I _ | trivial | simp), trivial⟩ (by simp) (by intro S _ _ h; simp) (fun F n0 X w ρ hC hro => ?_)
  refine W_seq ?_
  refine W_region ?_
  refine WL_cons hC.fn (.plain rfl (ox_box hC (.tmp rfl) (by first | rfl | exact flat_agI) (by first | exact cells_ag | rfl) rfl rfl)) ?_
  refine WL_cons hC.fn (.plain rfl (ox_alloc hC zero_45 rfl rfl rfl)) ?_
  refine WL_cons hC.fn (.plain rfl (oc_assign hC .cnils rfl rfl)) ?_
  refine WL_nil ?_
  refine W_seq ?_
  refine W_seq ?_
  refine W_region ?_
  refine WL_cons hC.fn (.plain rfl (oc_field hC (.tmp rfl) fld_45_1 (by decide) (by first | exact .p (Nat.zero_add _) | exact .p rfl | exact .rp (by decide)) rfl rfl)) ?_
  refine WL_cons hC.fn (.plain rfl (oc_load hC (.tmp rfl) (by first | exact .p rfl | exact .rp) shp_27 (by first | exact unit_one rfl | exact unit_I (by first | omega | (simp; omega)) | exact unit_c rfl (by decide) | exact unit_c rfl (by simp)) rfl rfl)) ?_
  refine WL_cons hC.fn (.plain rfl (ox_cmp hC rfl (.tmp rfl) .cint (r := false) (by simp only [cmpI]; exact decide_eq_false (by omega)) rfl rfl)) ?_
  refine WL_nil ?_
  refine W_cond rfl (by decide) (fun hc => by cases hc) (fun _ => ?_)
  refine W_skip ?_
  refine W_seq ?_
  refine W_seq ?_
  refine W_region ?_
  refine WL_cons hC.fn (.plain rfl (oc_move hC (.tmp rfl) rfl rfl)) ?_
  refine WL_cons hC.fn (.plain rfl (oc_field hC (.tmp rfl) fld_45_0 (by decide) (by first | exact .p (Nat.zero_add _) | exact .p rfl | exact .rp (by decide)) rfl rfl)) ?_
  refine WL_cons hC.fn (.plain rfl (oc_load hC (.tmp rfl) (by first | exact .p rfl | exact .rp) shp_22 (by first | exact unit_one rfl | exact unit_I (by first | omega | (simp; omega)) | exact unit_c rfl (by decide) | exact unit_c rfl (by simp)) rfl rfl)) ?_
  refine WL_cons hC.fn (.plain rfl (ox_len hC (.tmp rfl) (by first | exact .row rfl | exact .vs | exact .sl rfl | exact .nils) Try.underlying22 rfl rfl rfl)) ?_
  refine WL_cons hC.fn (.plain rfl (ox_cmp hC rfl (.tmp rfl) (.tmp rfl) (r := true) (by simp only [cmpI]; exact decide_eq_true (by omega)) rfl rfl)) ?_
  refine WL_nil ?_
  refine W_cond rfl (by decide) (fun _ => ?_) (fun hc => by cases hc)
  refine W_seq ?_
  refine W_region ?_
  refine WL_cons hC.fn (.plain rfl (oc_field hC (.tmp rfl) fld_45_0 (by decide) (by first | exact .p (Nat.zero_add _) | exact .p rfl | exact .rp (by decide)) rfl rfl)) ?_
  refine WL_cons hC.fn (.plain rfl (oc_load hC (.tmp rfl) (by first | exact .p rfl | exact .rp) shp_22 (by first | exact unit_one rfl | exact unit_I (by first | omega | (simp; omega)) | exact unit_c rfl (by decide) | exact unit_c rfl (by simp)) rfl rfl)) ?_
  refine WL_cons hC.fn (.plain rfl (ox_build (out' := [.vs n (I .u8 b), .i .i64 2]) hC (.cons (.tmp rfl) (.cons .cint .nil)) zero_45 bld_45 rfl rfl rfl rfl)) ?_
  refine WL_cons hC.fn (.plain rfl (ox_store hC (.tmp rfl) (.tmp rfl) rfl shp_45 (by first | rfl | exact flat_agI) rfl (by first | exact Nat.le_refl _ | exact Nat.le_of_ble_eq_true rfl | decide | (simp <;> fail) | (simp; omega)) rfl (by first | exact .here | exact .there (.here) rfl | exact .there (.there (.here) rfl) rfl | exact .there (.there (.there (.here) rfl) rfl) rfl | exact .there (.there (.there (.there (.here) rfl) rfl) rfl) rfl | exact .there (.there (.there (.there (.there (.here) rfl) rfl) rfl) rfl) rfl | exact .there (.there (.there (.there (.there (.there (.here) rfl) rfl) rfl) rfl) rfl) rfl | exact .there (.there (.there (.there (.there (.there (.there (.here) rfl) rfl) rfl) rfl) rfl) rfl) rfl | exact .there (.there (.there (.there (.there (.there (.there (.there (.here) rfl) rfl) rfl) rfl) rfl) rfl) rfl) rfl | exact .there (.there (.there (.there (.there (.there (.there (.there (.there (.here) rfl) rfl) rfl) rfl) rfl) rfl) rfl) rfl) rfl) rfl)) ?_
  refine WL_cons hC.fn (.plain rfl (oc_assign hC .cnils rfl rfl)) ?_
  refine WL_nil ?_
  refine W_ret ?_
  exact fin0 (.cons (.cell rfl (.p rfl) shp_45 (unit_agg rfl)) (.cons (.tmp rfl) .nil)) rfl (by simp)
set_option maxRecDepth 20000 in
set_option maxHeartbeats 4000000 in
theorem rtake_c (n : Nat) (b : List Int) (e : Int) (hb : b.length = n) (hb8 : B8 b) (hl : n ≤ 1099511627776) (k : Nat) (he : e = 0) (hk : k ≤ n) : FnC Try.prog 37 [] [.ag [.vs n (I .u8 b), .i .i64 e], .i .i64 k] [] [] (.tu [.ag [.vs (n - k) (I .u8 (b.drop k)), .i .i64 0], .vs k (I .u8 (b.take k))]) := by
  refine FnC.introR (N0 := 0) (T := 27) (E := [(0, .ag [.vs n (I .u8 b), .i .i64 e]), (1, .i .i64 k)]) Try.func37 rfl (by decide) mix rfl rfl rfl (by simp) rfl ⟨(by first | exact inSL_I _ | trivial | simp), (by first | exact inSL_I _ | trivial | simp), trivial⟩ (by simp) (by intro S _ _ h; simp) (fun F n0 X w ρ hC hro => ?_)
  refine W_seq ?_
  refine W_region ?_
  refine WL_cons hC.fn (.plain rfl (ox_box hC (.tmp rfl) (by first | rfl | exact flat_agI) (by first | exact cells_ag | rfl) rfl rfl)) ?_
  refine WL_cons hC.fn (.plain rfl (ox_alloc hC zero_45 rfl rfl rfl)) ?_
  refine WL_cons hC.fn (.plain rfl (oc_assign hC .cnils rfl rfl)) ?_
  refine WL_nil ?_
  refine W_seq ?_
  refine W_seq ?_
  refine W_region ?_
  refine WL_cons hC.fn (.plain rfl (oc_field hC (.tmp rfl) fld_45_1 (by decide) (by first | exact .p (Nat.zero_add _) | exact .p rfl | exact .rp (by decide)) rfl rfl)) ?_
  refine WL_cons hC.fn (.plain rfl (oc_load hC (.tmp rfl) (by first | exact .p rfl | exact .rp) shp_27 (by first | exact unit_one rfl | exact unit_I (by first | omega | (simp; omega)) | exact unit_c rfl (by decide) | exact unit_c rfl (by simp)) rfl rfl)) ?_
  refine WL_cons hC.fn (.plain rfl (ox_cmp hC rfl (.tmp rfl) .cint (r := false) (by simp only [cmpI]; exact decide_eq_false (by omega)) rfl rfl)) ?_
  refine WL_nil ?_
  refine W_cond rfl (by decide) (fun hc => by cases hc) (fun _ => ?_)
  refine W_skip ?_
  refine W_seq ?_
  refine W_seq ?_
  refine W_region ?_
  refine WL_cons hC.fn (.plain rfl (oc_move hC (.tmp rfl) rfl rfl)) ?_
  refine WL_cons hC.fn (.plain rfl (oc_field hC (.tmp rfl) fld_45_0 (by decide) (by first | exact .p (Nat.zero_add _) | exact .p rfl | exact .rp (by decide)) rfl rfl)) ?_
  refine WL_cons hC.fn (.plain rfl (oc_load hC (.tmp rfl) (by first | exact .p rfl | exact .rp) shp_22 (by first | exact unit_one rfl | exact unit_I (by first | omega | (simp; omega)) | exact unit_c rfl (by decide) | exact unit_c rfl (by simp)) rfl rfl)) ?_
  refine WL_cons hC.fn (.plain rfl (ox_len hC (.tmp rfl) (by first | exact .row rfl | exact .vs | exact .sl rfl | exact .nils) Try.underlying22 rfl rfl rfl)) ?_
  refine WL_cons hC.fn (.plain rfl (ox_cmp hC rfl (.tmp rfl) (.tmp rfl) (r := false) (by simp only [cmpI]; exact decide_eq_false (by omega)) rfl rfl)) ?_
  refine WL_nil ?_
  refine W_cond rfl (by decide) (fun hc => by cases hc) (fun _ => ?_)
  refine W_skip ?_
  refine W_seq ?_
  refine W_drawD hC ?_
  refine WD_cons (.plain rfl (oc_field hC (.tmp rfl) fld_45_0 (by decide) (by first | exact .p (Nat.zero_add _) | exact .p rfl | exact .rp (by decide)) rfl rfl)) ?_
  refine WD_cons (.plain rfl (oc_load hC (.tmp rfl) (by first | exact .p rfl | exact .rp) shp_22 (by first | exact unit_one rfl | exact unit_I (by first | omega | (simp; omega)) | exact unit_c rfl (by decide) | exact unit_c rfl (by simp)) rfl rfl)) ?_
  refine WD_cons (.plain rfl (oc_move hC (.tmp rfl) rfl rfl)) ?_
  refine WD_cons (.plain rfl (ox_cutS (u' := .vs (n - k) (I .u8 (b.drop k))) hC (.tmp rfl) (.yes (n := k) (.tmp rfl) (by first | rfl | omega | (simp; omega))) .no idx_22 (by first | exact .row rfl (Nat.mul_one _) | exact .sl rfl | exact .vs (by first | omega | (simp; omega)) | exact .nils) (by first | omega | (simp; omega)) (by first | omega | (simp; omega)) (by rw [cut_vsI]; congr 2; exact List.take_of_length_le (by simp; omega)) rfl rfl)) ?_
  refine WD_cons (.plain rfl (ox_build (out' := [.vs (n - k) (I .u8 (b.drop k)), .i .i64 0]) hC (.cons (.tmp rfl) (.cons .cint .nil)) zero_45 bld_45 rfl rfl rfl rfl)) ?_
  refine WD_cons (.plain rfl (oc_field hC (.tmp rfl) fld_45_0 (by decide) (by first | exact .p (Nat.zero_add _) | exact .p rfl | exact .rp (by decide)) rfl rfl)) ?_
  refine WD_cons (.plain rfl (oc_load hC (.tmp rfl) (by first | exact .p rfl | exact .rp) shp_22 (by first | exact unit_one rfl | exact unit_I (by first | omega | (simp; omega)) | exact unit_c rfl (by decide) | exact unit_c rfl (by simp)) rfl rfl)) ?_
  refine WD_cons (.plain rfl (oc_move hC (.tmp rfl) rfl rfl)) ?_
  refine WD_cons (.plain rfl (ox_cutS (u' := .vs k (I .u8 (b.take k))) hC (.tmp rfl) .no (.yes (n := k) (.tmp rfl) (by first | rfl | omega | (simp; omega))) idx_22 (by first | exact .row rfl (Nat.mul_one _) | exact .sl rfl | exact .vs (by first | omega | (simp; omega)) | exact .nils) (by first | omega | (simp; omega)) (by first | omega | (simp; omega)) (by rw [cut_vsI, List.drop_zero]; rfl) rfl rfl)) ?_
  refine WD_cons (.plain rfl (ox_store hC (.tmp rfl) (.tmp rfl) rfl shp_45 (by first | rfl | exact flat_agI) rfl (by first | exact Nat.le_refl _ | exact Nat.le_of_ble_eq_true rfl | decide | (simp <;> fail) | (simp; omega)) rfl (by first | exact .here | exact .there (.here) rfl | exact .there (.there (.here) rfl) rfl | exact .there (.there (.there (.here) rfl) rfl) rfl | exact .there (.there (.there (.there (.here) rfl) rfl) rfl) rfl | exact .there (.there (.there (.there (.there (.here) rfl) rfl) rfl) rfl) rfl | exact .there (.there (.there (.there (.there (.there (.here) rfl) rfl) rfl) rfl) rfl) rfl | exact .there (.there (.there (.there (.there (.there (.there (.here) rfl) rfl) rfl) rfl) rfl) rfl) rfl | exact .there (.there (.there (.there (.there (.there (.there (.there (.here) rfl) rfl) rfl) rfl) rfl) rfl) rfl) rfl | exact .there (.there (.there (.there (.there (.there (.there (.there (.there (.here) rfl) rfl) rfl) rfl) rfl) rfl) rfl) rfl) rfl) rfl)) ?_
  refine WD_cons (.plain rfl (oc_assign hC (.tmp rfl) rfl rfl)) ?_
  refine WD_nil (by kernel_rfl) ?_
  refine W_ret ?_
  exact fin0 (.cons (.cell rfl (.p rfl) shp_45 (unit_agg rfl)) (.cons (.tmp rfl) .nil)) rfl (by simp)
set_option maxRecDepth 20000 in
set_option maxHeartbeats 4000000 in
theorem rrferr_c (n : Nat) (b : List Int) (e : Int) (hb : b.length = n) (hb8 : B8 b) (hl : n ≤ 1099511627776) (width : Int) (he : e ≠ 0) : FnC Try.prog 26 [] [.ag [.vs n (I .u8 b), .i .i64 e], .i .i64 width] [] [] (.tu [.ag [.vs n (I .u8 b), .i .i64 e], .i .u64 0]) := by
  refine FnC.introR (N0 := 0) (T := 49) (E := [(0, .ag [.vs n (I .u8 b), .i .i64 e]), (1, .i .i64 width)]) Try.func26 rfl (by decide) mix rfl rfl rfl (by simp) rfl ⟨(by first | exact inSL_I _ | trivial | simp), (by first | exact inSL_I _ | trivial | simp), trivial⟩ (by simp) (by intro S _ _ h; simp) (fun F n0 X w ρ hC hro => ?_)
  refine W_seq ?_
  refine W_region ?_
  refine WL_cons hC.fn (.plain rfl (ox_box hC (.tmp rfl) (by first | rfl | exact flat_agI) (by first | exact cells_ag | rfl) rfl rfl)) ?_
  refine WL_cons hC.fn (.plain rfl (ox_alloc hC zero_45 rfl rfl rfl)) ?_
  refine WL_cons hC.fn (.plain rfl (oc_assign hC .cint rfl rfl)) ?_
  refine WL_nil ?_
  refine W_seq ?_
  refine W_seq ?_
  refine W_region ?_
  refine WL_cons hC.fn (.plain rfl (oc_field hC (.tmp rfl) fld_45_1 (by decide) (by first | exact .p (Nat.zero_add _) | exact .p rfl | exact .rp (by decide)) rfl rfl)) ?_
  refine WL_cons hC.fn (.plain rfl (oc_load hC (.tmp rfl) (by first | exact .p rfl | exact .rp) shp_27 (by first | exact unit_one rfl | exact unit_I (by first | omega | (simp; omega)) | exact unit_c rfl (by decide) | exact unit_c rfl (by simp)) rfl rfl)) ?_
  refine WL_cons hC.fn (.plain rfl (ox_cmp hC rfl (.tmp rfl) .cint (r := true) (by simp only [cmpI]; exact decide_eq_true (by omega)) rfl rfl)) ?_
  refine WL_nil ?_
  refine W_cond rfl (by decide) (fun _ => ?_) (fun hc => by cases hc)
  refine W_seq ?_
  refine W_region ?_
  refine WL_cons hC.fn (.plain rfl (oc_load hC (v := .ag [.vs n (I .u8 b), .i .i64 e]) (.tmp rfl) (by first | exact .p rfl | exact .rp) shp_45 (by exact (unit_agg rfl)) rfl rfl)) ?_
  refine WL_cons hC.fn (.plain rfl (ox_store hC (.tmp rfl) (.tmp rfl) rfl shp_45 (by first | rfl | exact flat_agI) rfl (by first | exact Nat.le_refl _ | exact Nat.le_of_ble_eq_true rfl | decide | (simp <;> fail) | (simp; omega)) rfl (by first | exact .here | exact .there (.here) rfl | exact .there (.there (.here) rfl) rfl | exact .there (.there (.there (.here) rfl) rfl) rfl | exact .there (.there (.there (.there (.here) rfl) rfl) rfl) rfl | exact .there (.there (.there (.there (.there (.here) rfl) rfl) rfl) rfl) rfl | exact .there (.there (.there (.there (.there (.there (.here) rfl) rfl) rfl) rfl) rfl) rfl | exact .there (.there (.there (.there (.there (.there (.there (.here) rfl) rfl) rfl) rfl) rfl) rfl) rfl | exact .there (.there (.there (.there (.there (.there (.there (.there (.here) rfl) rfl) rfl) rfl) rfl) rfl) rfl) rfl | exact .there (.there (.there (.there (.there (.there (.there (.there (.there (.here) rfl) rfl) rfl) rfl) rfl) rfl) rfl) rfl) rfl) rfl)) ?_
  refine WL_cons hC.fn (.plain rfl (oc_assign hC .cint rfl rfl)) ?_
  refine WL_nil ?_
  refine W_ret ?_
  exact fin0 (.cons (.cell rfl (.p rfl) shp_45 (unit_agg rfl)) (.cons (.tmp rfl) .nil)) rfl (by simp)
set_option maxRecDepth 20000 in
set_option maxHeartbeats 4000000 in
theorem rrfrange_c (n : Nat) (b : List Int) (e : Int) (hb : b.length = n) (hb8 : B8 b) (hl : n ≤ 1099511627776) (width : Int) (he : e = 0) (hw : width < 0 ∨ (0 ≤ width ∧ 8 < width)) : FnC Try.prog 26 [] [.ag [.vs n (I .u8 b), .i .i64 e], .i .i64 width] [] [] (.tu [.ag [.vs n (I .u8 b), .i .i64 3], .i .u64 0]) := by
  refine FnC.introR (N0 := 0) (T := 49) (E := [(0, .ag [.vs n (I .u8 b), .i .i64 e]), (1, .i .i64 width)]) Try.func26 rfl (by decide) mix rfl rfl rfl (by simp) rfl ⟨(by first | exact inSL_I _ | trivial | simp), (by first | exact inSL_I _ | trivial | simp), trivial⟩ (by simp) (by intro S _ _ h; simp) (fun F n0 X w ρ hC hro => ?_)
  refine W_seq ?_
  refine W_region ?_
  refine WL_cons hC.fn (.plain rfl (ox_box hC (.tmp rfl) (by first | rfl | exact flat_agI) (by first | exact cells_ag | rfl) rfl rfl)) ?_
  refine WL_cons hC.fn (.plain rfl (ox_alloc hC zero_45 rfl rfl rfl)) ?_
  refine WL_cons hC.fn (.plain rfl (oc_assign hC .cint rfl rfl)) ?_
  refine WL_nil ?_
  refine W_seq ?_
  refine W_seq ?_
  refine W_region ?_
  refine WL_cons hC.fn (.plain rfl (oc_field hC (.tmp rfl) fld_45_1 (by decide) (by first | exact .p (Nat.zero_add _) | exact .p rfl | exact .rp (by decide)) rfl rfl)) ?_
  refine WL_cons hC.fn (.plain rfl (oc_load hC (.tmp rfl) (by first | exact .p rfl | exact .rp) shp_27 (by first | exact unit_one rfl | exact unit_I (by first | omega | (simp; omega)) | exact unit_c rfl (by decide) | exact unit_c rfl (by simp)) rfl rfl)) ?_
  refine WL_cons hC.fn (.plain rfl (ox_cmp hC rfl (.tmp rfl) .cint (r := false) (by simp only [cmpI]; exact decide_eq_false (by omega)) rfl rfl)) ?_
  refine WL_nil ?_
  refine W_cond rfl (by decide) (fun hc => by cases hc) (fun _ => ?_)
  refine W_skip ?_
  refine W_seq ?_
  refine W_seq ?_
  rcases hw with hw | hw
  ·
    refine W_region ?_
    refine WL_cons hC.fn (.plain rfl (oc_move hC (.tmp rfl) rfl rfl)) ?_
    refine WL_cons hC.fn (.plain rfl (ox_cmp hC rfl (.tmp rfl) .cint (r := true) (by simp only [cmpI]; exact decide_eq_true (by omega)) rfl rfl)) ?_
    refine WL_cons hC.fn (.plain rfl (oc_move hC (.tmp rfl) rfl rfl)) ?_
    refine WL_cons hC.fn (.no (s1 := ⟨_, (18, .tu []) :: _, _⟩) rfl rfl (by decide) rfl (by decide) (fun t ht => by cases ht; exact ⟨blt_lt rfl, blt_lt rfl⟩) (fun t => setE_cons _ _ _ _) rfl rfl) ?_
    refine WL_cons hC.fn (.no (s1 := ⟨_, (19, .tu []) :: _, _⟩) rfl rfl (by decide) rfl (by decide) (fun t ht => by cases ht; exact ⟨blt_lt rfl, blt_lt rfl⟩) (fun t => setE_cons _ _ _ _) rfl rfl) ?_
    refine WL_cons hC.fn (.plain rfl (ox_pick hC (.tmp rfl) .cbool (.tmp rfl) (by first | exact pick_t | exact pick_f | rfl) rfl rfl)) ?_
    refine WL_nil ?_
    refine W_cond rfl (by decide) (fun _ => ?_) (fun hc => by cases hc)
    refine W_seq ?_
    refine W_region ?_
    refine WL_cons hC.fn (.plain rfl (oc_field hC (.tmp rfl) fld_45_0 (by decide) (by first | exact .p (Nat.zero_add _) | exact .p rfl | exact .rp (by decide)) rfl rfl)) ?_
    refine WL_cons hC.fn (.plain rfl (oc_load hC (.tmp rfl) (by first | exact .p rfl | exact .rp) shp_22 (by first | exact unit_one rfl | exact unit_I (by first | omega | (simp; omega)) | exact unit_c rfl (by decide) | exact unit_c rfl (by simp)) rfl rfl)) ?_
    refine WL_cons hC.fn (.plain rfl (ox_build (out' := [.vs n (I .u8 b), .i .i64 3]) hC (.cons (.tmp rfl) (.cons .cint .nil)) zero_45 bld_45 rfl rfl rfl rfl)) ?_
    refine WL_cons hC.fn (.plain rfl (ox_store hC (.tmp rfl) (.tmp rfl) rfl shp_45 (by first | rfl | exact flat_agI) rfl (by first | exact Nat.le_refl _ | exact Nat.le_of_ble_eq_true rfl | decide | (simp <;> fail) | (simp; omega)) rfl (by first | exact .here | exact .there (.here) rfl | exact .there (.there (.here) rfl) rfl | exact .there (.there (.there (.here) rfl) rfl) rfl | exact .there (.there (.there (.there (.here) rfl) rfl) rfl) rfl | exact .there (.there (.there (.there (.there (.here) rfl) rfl) rfl) rfl) rfl | exact .there (.there (.there (.there (.there (.there (.here) rfl) rfl) rfl) rfl) rfl) rfl | exact .there (.there (.there (.there (.there (.there (.there (.here) rfl) rfl) rfl) rfl) rfl) rfl) rfl | exact .there (.there (.there (.there (.there (.there (.there (.there (.here) rfl) rfl) rfl) rfl) rfl) rfl) rfl) rfl | exact .there (.there (.there (.there (.there (.there (.there (.there (.there (.here) rfl) rfl) rfl) rfl) rfl) rfl) rfl) rfl) rfl) rfl)) ?_
    refine WL_cons hC.fn (.plain rfl (oc_assign hC .cint rfl rfl)) ?_
    refine WL_nil ?_
    refine W_ret ?_
    exact fin0 (.cons (.cell rfl (.p rfl) shp_45 (unit_agg rfl)) (.cons (.tmp rfl) .nil)) rfl (by simp)
  ·
    refine W_region ?_
    refine WL_cons hC.fn (.plain rfl (oc_move hC (.tmp rfl) rfl rfl)) ?_
    refine WL_cons hC.fn (.plain rfl (ox_cmp hC rfl (.tmp rfl) .cint (r := false) (by simp only [cmpI]; exact decide_eq_false (by omega)) rfl rfl)) ?_
    refine WL_cons hC.fn (.plain rfl (oc_move hC (.tmp rfl) rfl rfl)) ?_
    refine WL_cons hC.fn (.yes rfl rfl (by decide) rfl (oc_move hC (.tmp rfl) rfl rfl)) ?_
    refine WL_cons hC.fn (.yes rfl rfl (by decide) rfl (ox_cmp hC rfl (.tmp rfl) .cint (r := true) (by simp only [cmpI]; exact decide_eq_true (by omega)) rfl rfl)) ?_
    refine WL_cons hC.fn (.plain rfl (ox_pick hC (.tmp rfl) .cbool (.tmp rfl) (by first | exact pick_t | exact pick_f | rfl) rfl rfl)) ?_
    refine WL_nil ?_
    refine W_cond rfl (by decide) (fun _ => ?_) (fun hc => by cases hc)
    refine W_seq ?_
    refine W_region ?_
    refine WL_cons hC.fn (.plain rfl (oc_field hC (.tmp rfl) fld_45_0 (by decide) (by first | exact .p (Nat.zero_add _) | exact .p rfl | exact .rp (by decide)) rfl rfl)) ?_
    refine WL_cons hC.fn (.plain rfl (oc_load hC (.tmp rfl) (by first | exact .p rfl | exact .rp) shp_22 (by first | exact unit_one rfl | exact unit_I (by first | omega | (simp; omega)) | exact unit_c rfl (by decide) | exact unit_c rfl (by simp)) rfl rfl)) ?_
    refine WL_cons hC.fn (.plain rfl (ox_build (out' := [.vs n (I .u8 b), .i .i64 3]) hC (.cons (.tmp rfl) (.cons .cint .nil)) zero_45 bld_45 rfl rfl rfl rfl)) ?_
    refine WL_cons hC.fn (.plain rfl (ox_store hC (.tmp rfl) (.tmp rfl) rfl shp_45 (by first | rfl | exact flat_agI) rfl (by first | exact Nat.le_refl _ | exact Nat.le_of_ble_eq_true rfl | decide | (simp <;> fail) | (simp; omega)) rfl (by first | exact .here | exact .there (.here) rfl | exact .there (.there (.here) rfl) rfl | exact .there (.there (.there (.here) rfl) rfl) rfl | exact .there (.there (.there (.there (.here) rfl) rfl) rfl) rfl | exact .there (.there (.there (.there (.there (.here) rfl) rfl) rfl) rfl) rfl | exact .there (.there (.there (.there (.there (.there (.here) rfl) rfl) rfl) rfl) rfl) rfl | exact .there (.there (.there (.there (.there (.there (.there (.here) rfl) rfl) rfl) rfl) rfl) rfl) rfl | exact .there (.there (.there (.there (.there (.there (.there (.there (.here) rfl) rfl) rfl) rfl) rfl) rfl) rfl) rfl | exact .there (.there (.there (.there (.there (.there (.there (.there (.there (.here) rfl) rfl) rfl) rfl) rfl) rfl) rfl) rfl) rfl) rfl)) ?_
    refine WL_cons hC.fn (.plain rfl (oc_assign hC .cint rfl rfl)) ?_
    refine WL_nil ?_
    refine W_ret ?_
    exact fin0 (.cons (.cell rfl (.p rfl) shp_45 (unit_agg rfl)) (.cons (.tmp rfl) .nil)) rfl (by simp)
set_option maxRecDepth 20000 in
set_option maxHeartbeats 4000000 in
theorem rrf_c (n : Nat) (b : List Int) (e : Int) (hb : b.length = n) (hb8 : B8 b) (hl : n ≤ 1099511627776) (wd : Nat) (he : e = 0) (hw : wd ≤ 8) (hk : wd ≤ n) : FnC Try.prog 26 [] [.ag [.vs n (I .u8 b), .i .i64 e], .i .i64 wd] [] [] (.tu [.ag [.vs (n - wd) (I .u8 (b.drop wd)), .i .i64 0], .i .u64 (vle (b.take wd))]) := by
  have hx8 : B8 (b.take wd) := fun x hx => hb8 x (List.mem_of_mem_take hx)
  have hxl : (b.take wd).length = wd := by rw [List.length_take]; omega
  refine FnC.introR (N0 := 0) (T := 49) (E := [(0, .ag [.vs n (I .u8 b), .i .i64 e]), (1, .i .i64 wd)]) Try.func26 rfl (by decide) mix rfl rfl rfl (by simp) rfl ⟨(by first | exact inSL_I _ | trivial | simp), (by first | exact inSL_I _ | trivial | simp), trivial⟩ (by simp) (by intro S _ _ h; simp) (fun F n0 X w ρ hC hro => ?_)
  refine W_seq ?_
  refine W_region ?_
  refine WL_cons hC.fn (.plain rfl (ox_box hC (.tmp rfl) (by first | rfl | exact flat_agI) (by first | exact cells_ag | rfl) rfl rfl)) ?_
  refine WL_cons hC.fn (.plain rfl (ox_alloc hC zero_45 rfl rfl rfl)) ?_
  refine WL_cons hC.fn (.plain rfl (oc_assign hC .cint rfl rfl)) ?_
  refine WL_nil ?_
  refine W_seq ?_
  refine W_seq ?_
  refine W_region ?_
  refine WL_cons hC.fn (.plain rfl (oc_field hC (.tmp rfl) fld_45_1 (by decide) (by first | exact .p (Nat.zero_add _) | exact .p rfl | exact .rp (by decide)) rfl rfl)) ?_
  refine WL_cons hC.fn (.plain rfl (oc_load hC (.tmp rfl) (by first | exact .p rfl | exact .rp) shp_27 (by first | exact unit_one rfl | exact unit_I (by first | omega | (simp; omega)) | exact unit_c rfl (by decide) | exact unit_c rfl (by simp)) rfl rfl)) ?_
  refine WL_cons hC.fn (.plain rfl (ox_cmp hC rfl (.tmp rfl) .cint (r := false) (by simp only [cmpI]; exact decide_eq_false (by omega)) rfl rfl)) ?_
  refine WL_nil ?_
  refine W_cond rfl (by decide) (fun hc => by cases hc) (fun _ => ?_)
  refine W_skip ?_
  refine W_seq ?_
  refine W_seq ?_
  refine W_region ?_
  refine WL_cons hC.fn (.plain rfl (oc_move hC (.tmp rfl) rfl rfl)) ?_
  refine WL_cons hC.fn (.plain rfl (ox_cmp hC rfl (.tmp rfl) .cint (r := false) (by simp only [cmpI]; exact decide_eq_false (by omega)) rfl rfl)) ?_
  refine WL_cons hC.fn (.plain rfl (oc_move hC (.tmp rfl) rfl rfl)) ?_
  refine WL_cons hC.fn (.yes rfl rfl (by decide) rfl (oc_move hC (.tmp rfl) rfl rfl)) ?_
  refine WL_cons hC.fn (.yes rfl rfl (by decide) rfl (ox_cmp hC rfl (.tmp rfl) .cint (r := false) (by simp only [cmpI]; exact decide_eq_false (by omega)) rfl rfl)) ?_
  refine WL_cons hC.fn (.plain rfl (ox_pick hC (.tmp rfl) .cbool (.tmp rfl) (by first | exact pick_t | exact pick_f | rfl) rfl rfl)) ?_
  refine WL_nil ?_
  refine W_cond rfl (by decide) (fun hc => by cases hc) (fun _ => ?_)
  refine W_skip ?_
  refine W_seq ?_
  refine W_region ?_
  refine WL_cons hC.fn (.plain rfl (oc_load hC (v := .ag [.vs n (I .u8 b), .i .i64 e]) (.tmp rfl) (by first | exact .p rfl | exact .rp) shp_45 (by exact (unit_agg rfl)) rfl rfl)) ?_
  refine WL_cons hC.fn (.plain rfl (oc_move hC (.tmp rfl) rfl rfl)) ?_
  refine WL_cons hC.fn (.plain rfl (oc_call hC (.cons (.tmp rfl) (.cons (.tmp rfl) .nil)) (.cons1 (.free (by first | exact inSL_I _ | simp)) (.cons1 (.free (by first | exact inSL_I _ | simp)) (.same (by first | exact inSL_I _ | simp)))) (rtake_c n b e hb hb8 hl wd he hk) glob_nil (by first | exact inSL_I _ | simp) (by first | exact .inl rfl | exact .inr (by simp)) rfl rfl)) ?_
  refine WL_cons hC.fn (.plain rfl (oc_move hC (.tmp rfl) rfl rfl)) ?_
  refine WL_cons hC.fn (.plain rfl (oc_extract hC (.tmp rfl) rfl rfl rfl)) ?_
  refine WL_cons hC.fn (.plain rfl (oc_extract hC (.tmp rfl) rfl rfl rfl)) ?_
  refine WL_cons hC.fn (.plain rfl (ox_alloc hC zero_45 rfl rfl rfl)) ?_
  refine WL_cons hC.fn (.plain rfl (ox_store hC (.tmp rfl) (.tmp rfl) rfl shp_45 (by first | rfl | exact flat_agI) rfl (by first | exact Nat.le_refl _ | exact Nat.le_of_ble_eq_true rfl | decide | (simp <;> fail) | (simp; omega)) rfl (by first | exact .here | exact .there (.here) rfl | exact .there (.there (.here) rfl) rfl | exact .there (.there (.there (.here) rfl) rfl) rfl | exact .there (.there (.there (.there (.here) rfl) rfl) rfl) rfl | exact .there (.there (.there (.there (.there (.here) rfl) rfl) rfl) rfl) rfl | exact .there (.there (.there (.there (.there (.there (.here) rfl) rfl) rfl) rfl) rfl) rfl | exact .there (.there (.there (.there (.there (.there (.there (.here) rfl) rfl) rfl) rfl) rfl) rfl) rfl | exact .there (.there (.there (.there (.there (.there (.there (.there (.here) rfl) rfl) rfl) rfl) rfl) rfl) rfl) rfl | exact .there (.there (.there (.there (.there (.there (.there (.there (.there (.here) rfl) rfl) rfl) rfl) rfl) rfl) rfl) rfl) rfl) rfl)) ?_
  refine WL_cons hC.fn (.plain rfl (oc_assign hC (.tmp rfl) rfl rfl)) ?_
  refine WL_nil ?_
  refine W_seq ?_
  refine W_region ?_
  refine WL_cons hC.fn (.plain rfl (oc_assign hC .cint rfl rfl)) ?_
  refine WL_nil ?_
  refine W_seq ?_
  refine W_region ?_
  refine WL_cons hC.fn (.plain rfl (oc_assign hC .cint rfl rfl)) ?_
  refine WL_nil ?_
  refine W_seq ?_
  refine W_seq ?_
  refine W_region ?_
  refine WL_cons hC.fn (.plain rfl (oc_assign hC .cint rfl rfl)) ?_
  refine WL_nil ?_
  refine W_blk ?_
  refine W_loopW (fun (ζ : Nat) => ⟨3, [(4, .p 1 0), (6, .p 2 0), (7, .vs wd (I .u8 (b.take wd))), (8, .i .u64 (vle ((b.take wd).take ζ))), (9, .i .u64 (pw ζ)), (10, .i .i64 ζ)], [(1, .blk 45 [.nils, .i .i64 0]), (2, .blk 45 [.vs (n - wd) (I .u8 (b.drop wd)), .i .i64 0])]⟩) (fun ζ => ζ ≤ wd) (fun ζ => wd - ζ) (0) (Nat.zero_le _) (weak (fun k => k) (.cons rfl (by first | rfl | simp) (by show _ < _; decide) (.cons rfl (by first | rfl | simp) (by show _ < _; decide) (.cons rfl (ren_free _ _ (by simp)) (by simp) (.cons rfl (congrArg (AV.i _) (by rw [List.take_zero]; exact vle_nil)) trivial (.cons rfl (congrArg (AV.i _) pw_zero) trivial (.cons rfl rfl trivial .nil)))))) (.cons rfl (Blk.ren_free (by simp) _) rfl (by first | exact inSL_I _ | simp) (.cons rfl (Blk.ren_free (by simp) _) rfl (by first | exact inSL_I _ | simp) .nil)) rfl rfl rfl) ?_
  intro k hR
  replace hR : k ≤ wd := hR
  first | show W _ _ _ ⟨3, [(4, .p 1 0), (6, .p 2 0), (7, .vs wd (I .u8 (b.take wd))), (8, .i .u64 (vle ((b.take wd).take k))), (9, .i .u64 (pw k)), (10, .i .i64 k)], [(1, .blk 45 [.nils, .i .i64 0]), (2, .blk 45 [.vs (n - wd) (I .u8 (b.drop wd)), .i .i64 0])]⟩ | skip
  refine W_seq ?_
  refine W_seq ?_
  refine W_region ?_
  refine WL_cons hC.fn (.plain rfl (oc_move hC (.tmp rfl) rfl rfl)) ?_
  refine WL_cons hC.fn (.plain rfl (oc_move hC (.tmp rfl) rfl rfl)) ?_
  refine WL_cons hC.fn (.plain rfl (ox_len hC (.tmp rfl) (by first | exact .row rfl | exact .vs | exact .sl rfl | exact .nils) Try.underlying22 rfl rfl rfl)) ?_
  refine WL_cons hC.fn (.plain rfl (ox_cmp hC rfl (.tmp rfl) (.tmp rfl) rfl rfl rfl)) ?_
  refine WL_nil ?_
  refine W_cond rfl (by decide) (fun hc => ?_) (fun hc => ?_)
  ·
    replace hc := lss_t hc
    have hxk := hx8.get k
    refine W_skip ?_
    refine W_seq ?_
    refine W_blk ?_
    refine W_seq ?_
    refine W_region ?_
    refine WL_cons hC.fn (.plain rfl (oc_move hC (.tmp rfl) rfl rfl)) ?_
    refine WL_cons hC.fn (.plain rfl (oc_move hC (.tmp rfl) rfl rfl)) ?_
    refine WL_cons hC.fn (.plain rfl (oc_move hC (.tmp rfl) rfl rfl)) ?_
    refine WL_cons hC.fn (.plain rfl (ox_indexS hC  (.tmp rfl) (.tmp rfl) idx_22 (by first | rfl | exact toNat_up (by omega)) (by first | exact Nat.mul_one _ | rfl) (by first | exact .row rfl | exact .sl (Nat.zero_add _) | exact .sl rfl | exact .vs (by first | omega | (simp; omega))) (by first | omega | (simp; omega)) rfl rfl)) ?_
    refine WL_cons hC.fn (.plain rfl (oc_load hC (.tmp rfl) (by first | exact .p rfl | exact .rp) shp_5 (by exact (unit_I (by first | omega | (simp; omega)))) rfl rfl)) ?_
    refine WL_cons hC.fn (.plain rfl (oc_conv hC (.tmp rfl) rfl Try.underlying32 (by first | exact u64_conv (by omega) | rfl) rfl rfl)) ?_
    refine WL_cons hC.fn (.plain rfl (oc_move hC (.tmp rfl) rfl rfl)) ?_
    refine WL_cons hC.fn (.plain rfl (oc_bin hC rfl (.tmp rfl) (.tmp rfl) (r := IntKind.u64.wrap ((b.take wd).getD k 0 * pw k)) rfl rfl rfl)) ?_
    refine WL_cons hC.fn (.plain rfl (oc_bin hC rfl (.tmp rfl) (.tmp rfl) (r := IntKind.u64.wrap (vle ((b.take wd).take k) + IntKind.u64.wrap ((b.take wd).getD k 0 * pw k))) rfl rfl rfl)) ?_
    refine WL_cons hC.fn (.plain rfl (oc_assign hC (.tmp rfl) rfl rfl)) ?_
    refine WL_nil ?_
    refine W_region ?_
    refine WL_cons hC.fn (.plain rfl (oc_move hC (.tmp rfl) rfl rfl)) ?_
    refine WL_cons hC.fn (.plain rfl (oc_bin hC rfl (.tmp rfl) .cint (r := IntKind.u64.wrap (pw k * 256)) rfl rfl rfl)) ?_
    refine WL_cons hC.fn (.plain rfl (oc_assign hC (.tmp rfl) rfl rfl)) ?_
    refine WL_nil ?_
    refine W_region ?_
    refine WL_cons hC.fn (.plain rfl (oc_move hC (.tmp rfl) rfl rfl)) ?_
    refine WL_cons hC.fn (.plain rfl (oc_bin hC rfl (.tmp rfl) .cint (by first | exact i64_add (by omega) | rfl) rfl rfl)) ?_
    refine WL_cons hC.fn (.plain rfl (oc_assign hC (.tmp rfl) rfl rfl)) ?_
    refine WL_nil ?_
    exact ⟨(k + 1), (by omega), (weak (fun k => k) (.cons rfl (by first | rfl | simp) (by show _ < _; decide) (.cons rfl (by first | rfl | simp) (by show _ < _; decide) (.cons rfl (ren_free _ _ (by simp)) (by simp) (.cons rfl (congrArg (AV.i _) (rf_step hx8 (by omega) (by omega)).symm) trivial (.cons rfl (congrArg (AV.i _) pw_succ.symm) trivial (.cons rfl (by first | rfl | exact congrArg (AV.i _) (by omega) | exact congrArg (AV.i _) (by simp; omega)) trivial .nil)))))) (.cons rfl (Blk.ren_free (by simp) _) rfl (by first | exact inSL_I _ | simp) (.cons rfl (Blk.ren_free (by simp) _) rfl (by first | exact inSL_I _ | simp) .nil)) rfl rfl rfl), (by omega)⟩
  ·
    replace hc := lss_f hc
    obtain rfl : wd = k := by omega
    rw [List.take_of_length_le (show (b.take wd).length ≤ wd by omega)]
    refine W_exit ?_
    refine W_seq ?_
    refine W_region ?_
    refine WL_cons hC.fn (.plain rfl (oc_load hC (v := .ag [.vs (n - wd) (I .u8 (b.drop wd)), .i .i64 0]) (.tmp rfl) (by first | exact .p rfl | exact .rp) shp_45 (by exact (unit_agg rfl)) rfl rfl)) ?_
    refine WL_cons hC.fn (.plain rfl (oc_move hC (.tmp rfl) rfl rfl)) ?_
    refine WL_cons hC.fn (.plain rfl (ox_store hC (.tmp rfl) (.tmp rfl) rfl shp_45 (by first | rfl | exact flat_agI) rfl (by first | exact Nat.le_refl _ | exact Nat.le_of_ble_eq_true rfl | decide | (simp <;> fail) | (simp; omega)) rfl (by first | exact .here | exact .there (.here) rfl | exact .there (.there (.here) rfl) rfl | exact .there (.there (.there (.here) rfl) rfl) rfl | exact .there (.there (.there (.there (.here) rfl) rfl) rfl) rfl | exact .there (.there (.there (.there (.there (.here) rfl) rfl) rfl) rfl) rfl | exact .there (.there (.there (.there (.there (.there (.here) rfl) rfl) rfl) rfl) rfl) rfl | exact .there (.there (.there (.there (.there (.there (.there (.here) rfl) rfl) rfl) rfl) rfl) rfl) rfl | exact .there (.there (.there (.there (.there (.there (.there (.there (.here) rfl) rfl) rfl) rfl) rfl) rfl) rfl) rfl | exact .there (.there (.there (.there (.there (.there (.there (.there (.there (.here) rfl) rfl) rfl) rfl) rfl) rfl) rfl) rfl) rfl) rfl)) ?_
    refine WL_cons hC.fn (.plain rfl (oc_assign hC (.tmp rfl) rfl rfl)) ?_
    refine WL_nil ?_
    refine W_ret ?_
    exact fin0 (.cons (.cell rfl (.p rfl) shp_45 (unit_agg rfl)) (.cons (.tmp rfl) .nil)) rfl (by simp)
set_option maxRecDepth 20000 in
set_option maxHeartbeats 4000000 in
theorem rrfshort_c (n : Nat) (b : List Int) (e : Int) (hb : b.length = n) (hb8 : B8 b) (hl : n ≤ 1099511627776) (wd : Nat) (he : e = 0) (hw : wd ≤ 8) (hk : n < wd) : FnC Try.prog 26 [] [.ag [.vs n (I .u8 b), .i .i64 e], .i .i64 wd] [] [] (.tu [.ag [.vs n (I .u8 b), .i .i64 2], .i .u64 0]) := by
  refine FnC.introR (N0 := 0) (T := 49) (E := [(0, .ag [.vs n (I .u8 b), .i .i64 e]), (1, .i .i64 wd)]) Try.func26 rfl (by decide) mix rfl rfl rfl (by simp) rfl ⟨(by first | exact inSL_I _ | trivial | simp), (by first | exact inSL_I _ | trivial | simp), trivial⟩ (by simp) (by intro S _ _ h; simp) (fun F n0 X w ρ hC hro => ?_)
  refine W_seq ?_
  refine W_region ?_
  refine WL_cons hC.fn (.plain rfl (ox_box hC (.tmp rfl) (by first | rfl | exact flat_agI) (by first | exact cells_ag | rfl) rfl rfl)) ?_
  refine WL_cons hC.fn (.plain rfl (ox_alloc hC zero_45 rfl rfl rfl)) ?_
  refine WL_cons hC.fn (.plain rfl (oc_assign hC .cint rfl rfl)) ?_
  refine WL_nil ?_
  refine W_seq ?_
  refine W_seq ?_
  refine W_region ?_
  refine WL_cons hC.fn (.plain rfl (oc_field hC (.tmp rfl) fld_45_1 (by decide) (by first | exact .p (Nat.zero_add _) | exact .p rfl | exact .rp (by decide)) rfl rfl)) ?_
  refine WL_cons hC.fn (.plain rfl (oc_load hC (.tmp rfl) (by first | exact .p rfl | exact .rp) shp_27 (by first | exact unit_one rfl | exact unit_I (by first | omega | (simp; omega)) | exact unit_c rfl (by decide) | exact unit_c rfl (by simp)) rfl rfl)) ?_
  refine WL_cons hC.fn (.plain rfl (ox_cmp hC rfl (.tmp rfl) .cint (r := false) (by simp only [cmpI]; exact decide_eq_false (by omega)) rfl rfl)) ?_
  refine WL_nil ?_
  refine W_cond rfl (by decide) (fun hc => by cases hc) (fun _ => ?_)
  refine W_skip ?_
  refine W_seq ?_
  refine W_seq ?_
  refine W_region ?_
  refine WL_cons hC.fn (.plain rfl (oc_move hC (.tmp rfl) rfl rfl)) ?_
  refine WL_cons hC.fn (.plain rfl (ox_cmp hC rfl (.tmp rfl) .cint (r := false) (by simp only [cmpI]; exact decide_eq_false (by omega)) rfl rfl)) ?_
  refine WL_cons hC.fn (.plain rfl (oc_move hC (.tmp rfl) rfl rfl)) ?_
  refine WL_cons hC.fn (.yes rfl rfl (by decide) rfl (oc_move hC (.tmp rfl) rfl rfl)) ?_
  refine WL_cons hC.fn (.yes rfl rfl (by decide) rfl (ox_cmp hC rfl (.tmp rfl) .cint (r := false) (by simp only [cmpI]; exact decide_eq_false (by omega)) rfl rfl)) ?_
  refine WL_cons hC.fn (.plain rfl (ox_pick hC (.tmp rfl) .cbool (.tmp rfl) (by first | exact pick_t | exact pick_f | rfl) rfl rfl)) ?_
  refine WL_nil ?_
  refine W_cond rfl (by decide) (fun hc => by cases hc) (fun _ => ?_)
  refine W_skip ?_
  refine W_seq ?_
  refine W_region ?_
  refine WL_cons hC.fn (.plain rfl (oc_load hC (v := .ag [.vs n (I .u8 b), .i .i64 e]) (.tmp rfl) (by first | exact .p rfl | exact .rp) shp_45 (by exact (unit_agg rfl)) rfl rfl)) ?_
  refine WL_cons hC.fn (.plain rfl (oc_move hC (.tmp rfl) rfl rfl)) ?_
  refine WL_cons hC.fn (.plain rfl (oc_call hC (.cons (.tmp rfl) (.cons (.tmp rfl) .nil)) (.cons1 (.free (by first | exact inSL_I _ | simp)) (.cons1 (.free (by first | exact inSL_I _ | simp)) (.same (by first | exact inSL_I _ | simp)))) (rtakeshort_c n b e hb hb8 hl wd he hk) glob_nil (by first | exact inSL_I _ | simp) (by first | exact .inl rfl | exact .inr (by simp)) rfl rfl)) ?_
  refine WL_cons hC.fn (.plain rfl (oc_move hC (.tmp rfl) rfl rfl)) ?_
  refine WL_cons hC.fn (.plain rfl (oc_extract hC (.tmp rfl) rfl rfl rfl)) ?_
  refine WL_cons hC.fn (.plain rfl (oc_extract hC (.tmp rfl) rfl rfl rfl)) ?_
  refine WL_cons hC.fn (.plain rfl (ox_alloc hC zero_45 rfl rfl rfl)) ?_
  refine WL_cons hC.fn (.plain rfl (ox_store hC (.tmp rfl) (.tmp rfl) rfl shp_45 (by first | rfl | exact flat_agI) rfl (by first | exact Nat.le_refl _ | exact Nat.le_of_ble_eq_true rfl | decide | (simp <;> fail) | (simp; omega)) rfl (by first | exact .here | exact .there (.here) rfl | exact .there (.there (.here) rfl) rfl | exact .there (.there (.there (.here) rfl) rfl) rfl | exact .there (.there (.there (.there (.here) rfl) rfl) rfl) rfl | exact .there (.there (.there (.there (.there (.here) rfl) rfl) rfl) rfl) rfl | exact .there (.there (.there (.there (.there (.there (.here) rfl) rfl) rfl) rfl) rfl) rfl | exact .there (.there (.there (.there (.there (.there (.there (.here) rfl) rfl) rfl) rfl) rfl) rfl) rfl | exact .there (.there (.there (.there (.there (.there (.there (.there (.here) rfl) rfl) rfl) rfl) rfl) rfl) rfl) rfl | exact .there (.there (.there (.there (.there (.there (.there (.there (.there (.here) rfl) rfl) rfl) rfl) rfl) rfl) rfl) rfl) rfl) rfl)) ?_
  refine WL_cons hC.fn (.plain rfl (oc_assign hC (.tmp rfl) rfl rfl)) ?_
  refine WL_nil ?_
  refine W_seq ?_
  refine W_region ?_
  refine WL_cons hC.fn (.plain rfl (oc_assign hC .cint rfl rfl)) ?_
  refine WL_nil ?_
  refine W_seq ?_
  refine W_region ?_
  refine WL_cons hC.fn (.plain rfl (oc_assign hC .cint rfl rfl)) ?_
  refine WL_nil ?_
  refine W_seq ?_
  refine W_seq ?_
  refine W_region ?_
  refine WL_cons hC.fn (.plain rfl (oc_assign hC .cint rfl rfl)) ?_
  refine WL_nil ?_
  refine W_blk ?_
  refine W_loopW (fun (ζ : Unit) => ⟨3, [(4, .p 1 0), (6, .p 2 0), (7, .nils), (8, .i .u64 0), (10, .i .i64 0)], [(1, .blk 45 [.nils, .i .i64 0]), (2, .blk 45 [.vs n (I .u8 b), .i .i64 2])]⟩) (fun ζ => True) (fun ζ => 0) () (by simp) (weak (fun k => k) (.cons rfl (by first | rfl | simp) (by show _ < _; decide) (.cons rfl (by first | rfl | simp) (by show _ < _; decide) (.cons rfl (by first | rfl | simp) trivial (.cons rfl (by first | rfl | exact congrArg (AV.i _) (by omega) | exact congrArg (AV.i _) (by simp; omega)) trivial (.cons rfl (by first | rfl | exact congrArg (AV.i _) (by omega) | exact congrArg (AV.i _) (by simp; omega)) trivial .nil))))) (.cons rfl (Blk.ren_free (by simp) _) rfl (by first | exact inSL_I _ | simp) (.cons rfl (Blk.ren_free (by simp) _) rfl (by first | exact inSL_I _ | simp) .nil)) rfl rfl rfl) ?_
  rintro ⟨⟩ hR
  first | show W _ _ _ ⟨3, [(4, .p 1 0), (6, .p 2 0), (7, .nils), (8, .i .u64 0), (10, .i .i64 0)], [(1, .blk 45 [.nils, .i .i64 0]), (2, .blk 45 [.vs n (I .u8 b), .i .i64 2])]⟩ | skip
  refine W_seq ?_
  refine W_seq ?_
  refine W_region ?_
  refine WL_cons hC.fn (.plain rfl (oc_move hC (.tmp rfl) rfl rfl)) ?_
  refine WL_cons hC.fn (.plain rfl (oc_move hC (.tmp rfl) rfl rfl)) ?_
  refine WL_cons hC.fn (.plain rfl (ox_len hC (.tmp rfl) (by first | exact .row rfl | exact .vs | exact .sl rfl | exact .nils) Try.underlying22 rfl rfl rfl)) ?_
  refine WL_cons hC.fn (.plain rfl (ox_cmp hC rfl (.tmp rfl) (.tmp rfl) rfl rfl rfl)) ?_
  refine WL_nil ?_
  refine W_cond rfl (by decide) (fun hc => ?_) (fun hc => ?_)
  ·
    replace hc := lss_t hc
    exfalso
    omega
  ·
    replace hc := lss_f hc
    
    refine W_exit ?_
    refine W_seq ?_
    refine W_region ?_
    refine WL_cons hC.fn (.plain rfl (oc_load hC (v := .ag [.vs n (I .u8 b), .i .i64 2]) (.tmp rfl) (by first | exact .p rfl | exact .rp) shp_45 (by exact (unit_agg rfl)) rfl rfl)) ?_
    refine WL_cons hC.fn (.plain rfl (oc_move hC (.tmp rfl) rfl rfl)) ?_
    refine WL_cons hC.fn (.plain rfl (ox_store hC (.tmp rfl) (.tmp rfl) rfl shp_45 (by first | rfl | exact flat_agI) rfl (by first | exact Nat.le_refl _ | exact Nat.le_of_ble_eq_true rfl | decide | (simp <;> fail) | (simp; omega)) rfl (by first | exact .here | exact .there (.here) rfl | exact .there (.there (.here) rfl) rfl | exact .there (.there (.there (.here) rfl) rfl) rfl | exact .there (.there (.there (.there (.here) rfl) rfl) rfl) rfl | exact .there (.there (.there (.there (.there (.here) rfl) rfl) rfl) rfl) rfl | exact .there (.there (.there (.there (.there (.there (.here) rfl) rfl) rfl) rfl) rfl) rfl | exact .there (.there (.there (.there (.there (.there (.there (.here) rfl) rfl) rfl) rfl) rfl) rfl) rfl | exact .there (.there (.there (.there (.there (.there (.there (.there (.here) rfl) rfl) rfl) rfl) rfl) rfl) rfl) rfl | exact .there (.there (.there (.there (.there (.there (.there (.there (.there (.here) rfl) rfl) rfl) rfl) rfl) rfl) rfl) rfl) rfl) rfl)) ?_
    refine WL_cons hC.fn (.plain rfl (oc_assign hC (.tmp rfl) rfl rfl)) ?_
    refine WL_nil ?_
    refine W_ret ?_
    exact fin0 (.cons (.cell rfl (.p rfl) shp_45 (unit_agg rfl)) (.cons (.tmp rfl) .nil)) rfl (by simp)
set_option maxRecDepth 20000 in
set_option maxHeartbeats 4000000 in
theorem rreaderr_c (n : Nat) (b : List Int) (e : Int) (hb : b.length = n) (hb8 : B8 b) (hl : n ≤ 1099511627776) (most : Int) (he : e ≠ 0) : FnC Try.prog 23 [] [.ag [.vs n (I .u8 b), .i .i64 e], .i .i64 most] [] [] (.tu [.ag [.vs n (I .u8 b), .i .i64 e], .i .i64 0]) := by
  refine FnC.introR (N0 := 0) (T := 71) (E := [(0, .ag [.vs n (I .u8 b), .i .i64 e]), (1, .i .i64 most)]) Try.func23 rfl (by decide) mix rfl rfl rfl (by simp) rfl ⟨(by first | exact inSL_I _ | trivial | simp), (by first | exact inSL_I _ | trivial | simp), trivial⟩ (by simp) (by intro S _ _ h; simp) (fun F n0 X w ρ hC hro => ?_)
  refine W_seq ?_
  refine W_region ?_
  refine WL_cons hC.fn (.plain rfl (ox_box hC (.tmp rfl) (by first | rfl | exact flat_agI) (by first | exact cells_ag | rfl) rfl rfl)) ?_
  refine WL_cons hC.fn (.plain rfl (ox_alloc hC zero_45 rfl rfl rfl)) ?_
  refine WL_cons hC.fn (.plain rfl (oc_assign hC .cint rfl rfl)) ?_
  refine WL_nil ?_
  refine W_seq ?_
  refine W_seq ?_
  refine W_region ?_
  refine WL_cons hC.fn (.plain rfl (oc_field hC (.tmp rfl) fld_45_1 (by decide) (by first | exact .p (Nat.zero_add _) | exact .p rfl | exact .rp (by decide)) rfl rfl)) ?_
  refine WL_cons hC.fn (.plain rfl (oc_load hC (.tmp rfl) (by first | exact .p rfl | exact .rp) shp_27 (by first | exact unit_one rfl | exact unit_I (by first | omega | (simp; omega)) | exact unit_c rfl (by decide) | exact unit_c rfl (by simp)) rfl rfl)) ?_
  refine WL_cons hC.fn (.plain rfl (ox_cmp hC rfl (.tmp rfl) .cint (r := true) (by simp only [cmpI]; exact decide_eq_true (by omega)) rfl rfl)) ?_
  refine WL_nil ?_
  refine W_cond rfl (by decide) (fun _ => ?_) (fun hc => by cases hc)
  refine W_seq ?_
  refine W_region ?_
  refine WL_cons hC.fn (.plain rfl (oc_load hC (v := .ag [.vs n (I .u8 b), .i .i64 e]) (.tmp rfl) (by first | exact .p rfl | exact .rp) shp_45 (by exact (unit_agg rfl)) rfl rfl)) ?_
  refine WL_cons hC.fn (.plain rfl (ox_store hC (.tmp rfl) (.tmp rfl) rfl shp_45 (by first | rfl | exact flat_agI) rfl (by first | exact Nat.le_refl _ | exact Nat.le_of_ble_eq_true rfl | decide | (simp <;> fail) | (simp; omega)) rfl (by first | exact .here | exact .there (.here) rfl | exact .there (.there (.here) rfl) rfl | exact .there (.there (.there (.here) rfl) rfl) rfl | exact .there (.there (.there (.there (.here) rfl) rfl) rfl) rfl | exact .there (.there (.there (.there (.there (.here) rfl) rfl) rfl) rfl) rfl | exact .there (.there (.there (.there (.there (.there (.here) rfl) rfl) rfl) rfl) rfl) rfl | exact .there (.there (.there (.there (.there (.there (.there (.here) rfl) rfl) rfl) rfl) rfl) rfl) rfl | exact .there (.there (.there (.there (.there (.there (.there (.there (.here) rfl) rfl) rfl) rfl) rfl) rfl) rfl) rfl | exact .there (.there (.there (.there (.there (.there (.there (.there (.there (.here) rfl) rfl) rfl) rfl) rfl) rfl) rfl) rfl) rfl) rfl)) ?_
  refine WL_cons hC.fn (.plain rfl (oc_assign hC .cint rfl rfl)) ?_
  refine WL_nil ?_
  refine W_ret ?_
  exact fin0 (.cons (.cell rfl (.p rfl) shp_45 (unit_agg rfl)) (.cons (.tmp rfl) .nil)) rfl (by simp)
set_option maxRecDepth 20000 in
set_option maxHeartbeats 4000000 in
theorem rreadshort_c (n : Nat) (b : List Int) (e : Int) (hb : b.length = n) (hb8 : B8 b) (hl : n ≤ 1099511627776) (most : Int) (he : e = 0) (h : ix7 b = n) (h6 : n < 6) : FnC Try.prog 23 [] [.ag [.vs n (I .u8 b), .i .i64 e], .i .i64 most] [] [] (.tu [.ag [.vs n (I .u8 b), .i .i64 2], .i .i64 0]) := by
  have hix := ix7_le b
  have hhi : ∀ k, k < ix7 b → ¬ b.getD k 0 < 128 := fun k hk hlt => by
    have := (ix7_spec b k (by omega) (by omega)).1 hlt; omega
  refine FnC.introR (N0 := 0) (T := 71) (E := [(0, .ag [.vs n (I .u8 b), .i .i64 e]), (1, .i .i64 most)]) Try.func23 rfl (by decide) mix rfl rfl rfl (by simp) rfl ⟨(by first | exact inSL_I _ | trivial | simp), (by first | exact inSL_I _ | trivial | simp), trivial⟩ (by simp) (by intro S _ _ h; simp) (fun F n0 X w ρ hC hro => ?_)
  refine W_seq ?_
  refine W_region ?_
  refine WL_cons hC.fn (.plain rfl (ox_box hC (.tmp rfl) (by first | rfl | exact flat_agI) (by first | exact cells_ag | rfl) rfl rfl)) ?_
  refine WL_cons hC.fn (.plain rfl (ox_alloc hC zero_45 rfl rfl rfl)) ?_
  refine WL_cons hC.fn (.plain rfl (oc_assign hC .cint rfl rfl)) ?_
  refine WL_nil ?_
  refine W_seq ?_
  refine W_seq ?_
  refine W_region ?_
  refine WL_cons hC.fn (.plain rfl (oc_field hC (.tmp rfl) fld_45_1 (by decide) (by first | exact .p (Nat.zero_add _) | exact .p rfl | exact .rp (by decide)) rfl rfl)) ?_
  refine WL_cons hC.fn (.plain rfl (oc_load hC (.tmp rfl) (by first | exact .p rfl | exact .rp) shp_27 (by first | exact unit_one rfl | exact unit_I (by first | omega | (simp; omega)) | exact unit_c rfl (by decide) | exact unit_c rfl (by simp)) rfl rfl)) ?_
  refine WL_cons hC.fn (.plain rfl (ox_cmp hC rfl (.tmp rfl) .cint (r := false) (by simp only [cmpI]; exact decide_eq_false (by omega)) rfl rfl)) ?_
  refine WL_nil ?_
  refine W_cond rfl (by decide) (fun hc => by cases hc) (fun _ => ?_)
  refine W_skip ?_
  refine W_seq ?_
  refine W_region ?_
  refine WL_cons hC.fn (.plain rfl (oc_assign hC .cint rfl rfl)) ?_
  refine WL_nil ?_
  refine W_seq ?_
  refine W_region ?_
  refine WL_cons hC.fn (.plain rfl (oc_assign hC .cint rfl rfl)) ?_
  refine WL_nil ?_
  refine W_seq ?_
  refine W_seq ?_
  refine W_region ?_
  refine WL_cons hC.fn (.plain rfl (oc_assign hC .cint rfl rfl)) ?_
  refine WL_nil ?_
  refine W_blk ?_
  refine W_loopW (fun (ζ : Nat) => ⟨2, [(1, .i .i64 most), (2, .p 0 0), (4, .p 1 0), (6, .i .i64 (vnum (b.take ζ))), (7, .i .i64 (p7 ζ)), (8, .i .i64 ζ)], [(0, .blk 45 [.vs n (I .u8 b), .i .i64 e]), (1, .blk 45 [.nils, .i .i64 0])]⟩) (fun ζ => ζ ≤ ix7 b ∧ ζ ≤ 6) (fun ζ => 6 - ζ) (0) ⟨Nat.zero_le _, Nat.zero_le _⟩ (weak (fun k => k) (.cons rfl (by first | rfl | exact congrArg (AV.i _) (by omega) | exact congrArg (AV.i _) (by simp; omega)) trivial (.cons rfl (by first | rfl | simp) (by show _ < _; decide) (.cons rfl (by first | rfl | simp) (by show _ < _; decide) (.cons rfl (congrArg (AV.i _) (by rw [List.take_zero]; unfold vnum; rfl)) trivial (.cons rfl (congrArg (AV.i _) p7_zero) trivial (.cons rfl rfl trivial .nil)))))) (.cons rfl (Blk.ren_free (by simp) _) rfl (by first | exact inSL_I _ | simp) (.cons rfl (Blk.ren_free (by simp) _) rfl (by first | exact inSL_I _ | simp) .nil)) rfl rfl rfl) ?_
  intro k hR
  replace hR : k ≤ ix7 b ∧ k ≤ 6 := hR
  first | show W _ _ _ ⟨2, [(1, .i .i64 most), (2, .p 0 0), (4, .p 1 0), (6, .i .i64 (vnum (b.take k))), (7, .i .i64 (p7 k)), (8, .i .i64 k)], [(0, .blk 45 [.vs n (I .u8 b), .i .i64 e]), (1, .blk 45 [.nils, .i .i64 0])]⟩ | skip
  have hck := hb8.get k
  have hvk := vnum_lt (l := b.take k) (by rw [List.length_take]; omega)
  refine W_seq ?_
  refine W_seq ?_
  refine W_region ?_
  refine WL_cons hC.fn (.plain rfl (oc_move hC (.tmp rfl) rfl rfl)) ?_
  refine WL_cons hC.fn (.plain rfl (ox_cmp hC rfl (.tmp rfl) .cint rfl rfl rfl)) ?_
  refine WL_nil ?_
  refine W_cond rfl (by decide) (fun hc => ?_) (fun hc => ?_)
  ·
    replace hc := lss_t hc
    have hpk := p7_small (i := k) (by omega)
    have hpm := p7_mul (i := k) (x := b.getD k 0 % 128) (by omega) (by omega)
    refine W_skip ?_
    refine W_seq ?_
    refine W_blk ?_
    refine W_seq ?_
    refine W_seq ?_
    refine W_region ?_
    refine WL_cons hC.fn (.plain rfl (oc_move hC (.tmp rfl) rfl rfl)) ?_
    refine WL_cons hC.fn (.plain rfl (oc_field hC (.tmp rfl) fld_45_0 (by decide) (by first | exact .p (Nat.zero_add _) | exact .p rfl | exact .rp (by decide)) rfl rfl)) ?_
    refine WL_cons hC.fn (.plain rfl (oc_load hC (.tmp rfl) (by first | exact .p rfl | exact .rp) shp_22 (by first | exact unit_one rfl | exact unit_I (by first | omega | (simp; omega)) | exact unit_c rfl (by decide) | exact unit_c rfl (by simp)) rfl rfl)) ?_
    refine WL_cons hC.fn (.plain rfl (ox_len hC (.tmp rfl) (by first | exact .row rfl | exact .vs | exact .sl rfl | exact .nils) Try.underlying22 rfl rfl rfl)) ?_
    refine WL_cons hC.fn (.plain rfl (ox_cmp hC rfl (.tmp rfl) (.tmp rfl) rfl rfl rfl)) ?_
    refine WL_nil ?_
    refine W_cond rfl (by decide) (fun hc => ?_) (fun hc => ?_)
    ·
      replace hc := eql_t hc
      
      refine W_seq ?_
      refine W_region ?_
      refine WL_cons hC.fn (.plain rfl (oc_field hC (.tmp rfl) fld_45_0 (by decide) (by first | exact .p (Nat.zero_add _) | exact .p rfl | exact .rp (by decide)) rfl rfl)) ?_
      refine WL_cons hC.fn (.plain rfl (oc_load hC (.tmp rfl) (by first | exact .p rfl | exact .rp) shp_22 (by first | exact unit_one rfl | exact unit_I (by first | omega | (simp; omega)) | exact unit_c rfl (by decide) | exact unit_c rfl (by simp)) rfl rfl)) ?_
      refine WL_cons hC.fn (.plain rfl (ox_build (out' := [.vs n (I .u8 b), .i .i64 2]) hC (.cons (.tmp rfl) (.cons .cint .nil)) zero_45 bld_45 rfl rfl rfl rfl)) ?_
      refine WL_cons hC.fn (.plain rfl (ox_store hC (.tmp rfl) (.tmp rfl) rfl shp_45 (by first | rfl | exact flat_agI) rfl (by first | exact Nat.le_refl _ | exact Nat.le_of_ble_eq_true rfl | decide | (simp <;> fail) | (simp; omega)) rfl (by first | exact .here | exact .there (.here) rfl | exact .there (.there (.here) rfl) rfl | exact .there (.there (.there (.here) rfl) rfl) rfl | exact .there (.there (.there (.there (.here) rfl) rfl) rfl) rfl | exact .there (.there (.there (.there (.there (.here) rfl) rfl) rfl) rfl) rfl | exact .there (.there (.there (.there (.there (.there (.here) rfl) rfl) rfl) rfl) rfl) rfl | exact .there (.there (.there (.there (.there (.there (.there (.here) rfl) rfl) rfl) rfl) rfl) rfl) rfl | exact .there (.there (.there (.there (.there (.there (.there (.there (.here) rfl) rfl) rfl) rfl) rfl) rfl) rfl) rfl | exact .there (.there (.there (.there (.there (.there (.there (.there (.there (.here) rfl) rfl) rfl) rfl) rfl) rfl) rfl) rfl) rfl) rfl)) ?_
      refine WL_cons hC.fn (.plain rfl (oc_assign hC .cint rfl rfl)) ?_
      refine WL_nil ?_
      refine W_ret ?_
      exact fin0 (.cons (.cell rfl (.p rfl) shp_45 (unit_agg rfl)) (.cons (.tmp rfl) .nil)) rfl (by simp)
    ·
      replace hc := eql_f hc
      
      refine W_skip ?_
      refine W_seq ?_
      refine W_region ?_
      refine WL_cons hC.fn (.plain rfl (oc_field hC (.tmp rfl) fld_45_0 (by decide) (by first | exact .p (Nat.zero_add _) | exact .p rfl | exact .rp (by decide)) rfl rfl)) ?_
      refine WL_cons hC.fn (.plain rfl (oc_load hC (.tmp rfl) (by first | exact .p rfl | exact .rp) shp_22 (by first | exact unit_one rfl | exact unit_I (by first | omega | (simp; omega)) | exact unit_c rfl (by decide) | exact unit_c rfl (by simp)) rfl rfl)) ?_
      refine WL_cons hC.fn (.plain rfl (oc_move hC (.tmp rfl) rfl rfl)) ?_
      refine WL_cons hC.fn (.plain rfl (ox_indexS hC  (.tmp rfl) (.tmp rfl) idx_22 (by first | rfl | exact toNat_up (by omega)) (by first | exact Nat.mul_one _ | rfl) (by first | exact .row rfl | exact .sl (Nat.zero_add _) | exact .sl rfl | exact .vs (by first | omega | (simp; omega))) (by first | omega | (simp; omega)) rfl rfl)) ?_
      refine WL_cons hC.fn (.plain rfl (oc_load hC (.tmp rfl) (by first | exact .p rfl | exact .rp) shp_5 (by exact (unit_I (by first | omega | (simp; omega)))) rfl rfl)) ?_
      refine WL_cons hC.fn (.plain rfl (oc_conv hC (.tmp rfl) rfl Try.underlying3 (by first | exact i64_conv (by omega) | rfl) rfl rfl)) ?_
      refine WL_cons hC.fn (.plain rfl (oc_assign hC (.tmp rfl) rfl rfl)) ?_
      refine WL_nil ?_
      refine W_seq ?_
      refine W_region ?_
      refine WL_cons hC.fn (.plain rfl (oc_move hC (.tmp rfl) rfl rfl)) ?_
      refine WL_cons hC.fn (.plain rfl (oc_move hC (.tmp rfl) rfl rfl)) ?_
      refine WL_cons hC.fn (.plain rfl (oc_div hC (.inr rfl) (.tmp rfl) .cint (by first | decide | omega) (by first | exact rem_nn (by omega) | rfl) rfl rfl)) ?_
      refine WL_cons hC.fn (.plain rfl (oc_move hC (.tmp rfl) rfl rfl)) ?_
      refine WL_cons hC.fn (.plain rfl (oc_bin hC rfl (.tmp rfl) (.tmp rfl) (r := b.getD k 0 % 128 * p7 k) (i64_mul ⟨Int.le_trans (by decide) hpm.1, Int.le_trans hpm.2 (by decide)⟩) rfl rfl)) ?_
      refine WL_cons hC.fn (.plain rfl (oc_bin hC rfl (.tmp rfl) (.tmp rfl) (r := vnum (b.take (k + 1))) (by rw [← vnum_step (by omega)]; generalize b.getD k 0 % 128 * p7 k = y at *; exact i64_conv (by omega)) rfl rfl)) ?_
      refine WL_cons hC.fn (.plain rfl (oc_assign hC (.tmp rfl) rfl rfl)) ?_
      refine WL_nil ?_
      refine W_seq ?_
      refine W_region ?_
      refine WL_cons hC.fn (.plain rfl (oc_move hC (.tmp rfl) rfl rfl)) ?_
      refine WL_cons hC.fn (.plain rfl (oc_bin hC rfl (.tmp rfl) .cint (r := p7 (k + 1)) (by rw [← p7_succ]; exact i64_conv (by omega)) rfl rfl)) ?_
      refine WL_cons hC.fn (.plain rfl (oc_assign hC (.tmp rfl) rfl rfl)) ?_
      refine WL_nil ?_
      refine W_seq ?_
      refine W_seq ?_
      refine W_region ?_
      refine WL_cons hC.fn (.plain rfl (oc_move hC (.tmp rfl) rfl rfl)) ?_
      refine WL_cons hC.fn (.plain rfl (ox_cmp hC rfl (.tmp rfl) .cint (r := true) (by have := hhi k (by omega); simp only [cmpI]; exact decide_eq_true (by omega)) rfl rfl)) ?_
      refine WL_nil ?_
      refine W_cond rfl (by decide) (fun _ => ?_) (fun hc => by cases hc)
      refine W_exit ?_
      refine W_region ?_
      refine WL_cons hC.fn (.plain rfl (oc_move hC (.tmp rfl) rfl rfl)) ?_
      refine WL_cons hC.fn (.plain rfl (oc_bin hC rfl (.tmp rfl) .cint (by first | exact i64_add (by omega) | rfl) rfl rfl)) ?_
      refine WL_cons hC.fn (.plain rfl (oc_assign hC (.tmp rfl) rfl rfl)) ?_
      refine WL_nil ?_
      exact ⟨(k + 1), ⟨by omega, by omega⟩, (weak (fun k => k) (.cons rfl (by first | rfl | exact congrArg (AV.i _) (by omega) | exact congrArg (AV.i _) (by simp; omega)) trivial (.cons rfl (by first | rfl | simp) (by show _ < _; decide) (.cons rfl (by first | rfl | simp) (by show _ < _; decide) (.cons rfl rfl trivial (.cons rfl rfl trivial (.cons rfl (by first | rfl | exact congrArg (AV.i _) (by omega) | exact congrArg (AV.i _) (by simp; omega)) trivial .nil)))))) (.cons rfl (Blk.ren_free (by simp) _) rfl (by first | exact inSL_I _ | simp) (.cons rfl (Blk.ren_free (by simp) _) rfl (by first | exact inSL_I _ | simp) .nil)) rfl rfl rfl), (by omega)⟩
  ·
    replace hc := lss_f hc
    exfalso
    omega
set_option maxRecDepth 20000 in
set_option maxHeartbeats 4000000 in
theorem rreadlong_c (n : Nat) (b : List Int) (e : Int) (hb : b.length = n) (hb8 : B8 b) (hl : n ≤ 1099511627776) (most : Int) (he : e = 0) (h : 6 ≤ ix7 b) : FnC Try.prog 23 [] [.ag [.vs n (I .u8 b), .i .i64 e], .i .i64 most] [] [] (.tu [.ag [.vs n (I .u8 b), .i .i64 4], .i .i64 0]) := by
  have hix := ix7_le b
  have hhi : ∀ k, k < ix7 b → ¬ b.getD k 0 < 128 := fun k hk hlt => by
    have := (ix7_spec b k (by omega) (by omega)).1 hlt; omega
  refine FnC.introR (N0 := 0) (T := 71) (E := [(0, .ag [.vs n (I .u8 b), .i .i64 e]), (1, .i .i64 most)]) Try.func23 rfl (by decide) mix rfl rfl rfl (by simp) rfl ⟨(by first | exact inSL_I _ | trivial | simp), (by first | exact inSL_I _ | trivial | simp), trivial⟩ (by simp) (by intro S _ _ h; simp) (fun F n0 X w ρ hC hro => ?_)
  refine W_seq ?_
  refine W_region ?_
  refine WL_cons hC.fn (.plain rfl (ox_box hC (.tmp rfl) (by first | rfl | exact flat_agI) (by first | exact cells_ag | rfl) rfl rfl)) ?_
  refine WL_cons hC.fn (.plain rfl (ox_alloc hC zero_45 rfl rfl rfl)) ?_
  refine WL_cons hC.fn (.plain rfl (oc_assign hC .cint rfl rfl)) ?_
  refine WL_nil ?_
  refine W_seq ?_
  refine W_seq ?_
  refine W_region ?_
  refine WL_cons hC.fn (.plain rfl (oc_field hC (.tmp rfl) fld_45_1 (by decide) (by first | exact .p (Nat.zero_add _) | exact .p rfl | exact .rp (by decide)) rfl rfl)) ?_
  refine WL_cons hC.fn (.plain rfl (oc_load hC (.tmp rfl) (by first | exact .p rfl | exact .rp) shp_27 (by first | exact unit_one rfl | exact unit_I (by first | omega | (simp; omega)) | exact unit_c rfl (by decide) | exact unit_c rfl (by simp)) rfl rfl)) ?_
  refine WL_cons hC.fn (.plain rfl (ox_cmp hC rfl (.tmp rfl) .cint (r := false) (by simp only [cmpI]; exact decide_eq_false (by omega)) rfl rfl)) ?_
  refine WL_nil ?_
  refine W_cond rfl (by decide) (fun hc => by cases hc) (fun _ => ?_)
  refine W_skip ?_
  refine W_seq ?_
  refine W_region ?_
  refine WL_cons hC.fn (.plain rfl (oc_assign hC .cint rfl rfl)) ?_
  refine WL_nil ?_
  refine W_seq ?_
  refine W_region ?_
  refine WL_cons hC.fn (.plain rfl (oc_assign hC .cint rfl rfl)) ?_
  refine WL_nil ?_
  refine W_seq ?_
  refine W_seq ?_
  refine W_region ?_
  refine WL_cons hC.fn (.plain rfl (oc_assign hC .cint rfl rfl)) ?_
  refine WL_nil ?_
  refine W_blk ?_
  refine W_loopW (fun (ζ : Nat) => ⟨2, [(1, .i .i64 most), (2, .p 0 0), (4, .p 1 0), (6, .i .i64 (vnum (b.take ζ))), (7, .i .i64 (p7 ζ)), (8, .i .i64 ζ)], [(0, .blk 45 [.vs n (I .u8 b), .i .i64 e]), (1, .blk 45 [.nils, .i .i64 0])]⟩) (fun ζ => ζ ≤ ix7 b ∧ ζ ≤ 6) (fun ζ => 6 - ζ) (0) ⟨Nat.zero_le _, Nat.zero_le _⟩ (weak (fun k => k) (.cons rfl (by first | rfl | exact congrArg (AV.i _) (by omega) | exact congrArg (AV.i _) (by simp; omega)) trivial (.cons rfl (by first | rfl | simp) (by show _ < _; decide) (.cons rfl (by first | rfl | simp) (by show _ < _; decide) (.cons rfl (congrArg (AV.i _) (by rw [List.take_zero]; unfold vnum; rfl)) trivial (.cons rfl (congrArg (AV.i _) p7_zero) trivial (.cons rfl rfl trivial .nil)))))) (.cons rfl (Blk.ren_free (by simp) _) rfl (by first | exact inSL_I _ | simp) (.cons rfl (Blk.ren_free (by simp) _) rfl (by first | exact inSL_I _ | simp) .nil)) rfl rfl rfl) ?_
  intro k hR
  replace hR : k ≤ ix7 b ∧ k ≤ 6 := hR
  first | show W _ _ _ ⟨2, [(1, .i .i64 most), (2, .p 0 0), (4, .p 1 0), (6, .i .i64 (vnum (b.take k))), (7, .i .i64 (p7 k)), (8, .i .i64 k)], [(0, .blk 45 [.vs n (I .u8 b), .i .i64 e]), (1, .blk 45 [.nils, .i .i64 0])]⟩ | skip
  have hck := hb8.get k
  have hvk := vnum_lt (l := b.take k) (by rw [List.length_take]; omega)
  refine W_seq ?_
  refine W_seq ?_
  refine W_region ?_
  refine WL_cons hC.fn (.plain rfl (oc_move hC (.tmp rfl) rfl rfl)) ?_
  refine WL_cons hC.fn (.plain rfl (ox_cmp hC rfl (.tmp rfl) .cint rfl rfl rfl)) ?_
  refine WL_nil ?_
  refine W_cond rfl (by decide) (fun hc => ?_) (fun hc => ?_)
  ·
    replace hc := lss_t hc
    have hpk := p7_small (i := k) (by omega)
    have hpm := p7_mul (i := k) (x := b.getD k 0 % 128) (by omega) (by omega)
    refine W_skip ?_
    refine W_seq ?_
    refine W_blk ?_
    refine W_seq ?_
    refine W_seq ?_
    refine W_region ?_
    refine WL_cons hC.fn (.plain rfl (oc_move hC (.tmp rfl) rfl rfl)) ?_
    refine WL_cons hC.fn (.plain rfl (oc_field hC (.tmp rfl) fld_45_0 (by decide) (by first | exact .p (Nat.zero_add _) | exact .p rfl | exact .rp (by decide)) rfl rfl)) ?_
    refine WL_cons hC.fn (.plain rfl (oc_load hC (.tmp rfl) (by first | exact .p rfl | exact .rp) shp_22 (by first | exact unit_one rfl | exact unit_I (by first | omega | (simp; omega)) | exact unit_c rfl (by decide) | exact unit_c rfl (by simp)) rfl rfl)) ?_
    refine WL_cons hC.fn (.plain rfl (ox_len hC (.tmp rfl) (by first | exact .row rfl | exact .vs | exact .sl rfl | exact .nils) Try.underlying22 rfl rfl rfl)) ?_
    refine WL_cons hC.fn (.plain rfl (ox_cmp hC rfl (.tmp rfl) (.tmp rfl) rfl rfl rfl)) ?_
    refine WL_nil ?_
    refine W_cond rfl (by decide) (fun hc => ?_) (fun hc => ?_)
    ·
      replace hc := eql_t hc
      exfalso
      omega
    ·
      replace hc := eql_f hc
      
      refine W_skip ?_
      refine W_seq ?_
      refine W_region ?_
      refine WL_cons hC.fn (.plain rfl (oc_field hC (.tmp rfl) fld_45_0 (by decide) (by first | exact .p (Nat.zero_add _) | exact .p rfl | exact .rp (by decide)) rfl rfl)) ?_
      refine WL_cons hC.fn (.plain rfl (oc_load hC (.tmp rfl) (by first | exact .p rfl | exact .rp) shp_22 (by first | exact unit_one rfl | exact unit_I (by first | omega | (simp; omega)) | exact unit_c rfl (by decide) | exact unit_c rfl (by simp)) rfl rfl)) ?_
      refine WL_cons hC.fn (.plain rfl (oc_move hC (.tmp rfl) rfl rfl)) ?_
      refine WL_cons hC.fn (.plain rfl (ox_indexS hC  (.tmp rfl) (.tmp rfl) idx_22 (by first | rfl | exact toNat_up (by omega)) (by first | exact Nat.mul_one _ | rfl) (by first | exact .row rfl | exact .sl (Nat.zero_add _) | exact .sl rfl | exact .vs (by first | omega | (simp; omega))) (by first | omega | (simp; omega)) rfl rfl)) ?_
      refine WL_cons hC.fn (.plain rfl (oc_load hC (.tmp rfl) (by first | exact .p rfl | exact .rp) shp_5 (by exact (unit_I (by first | omega | (simp; omega)))) rfl rfl)) ?_
      refine WL_cons hC.fn (.plain rfl (oc_conv hC (.tmp rfl) rfl Try.underlying3 (by first | exact i64_conv (by omega) | rfl) rfl rfl)) ?_
      refine WL_cons hC.fn (.plain rfl (oc_assign hC (.tmp rfl) rfl rfl)) ?_
      refine WL_nil ?_
      refine W_seq ?_
      refine W_region ?_
      refine WL_cons hC.fn (.plain rfl (oc_move hC (.tmp rfl) rfl rfl)) ?_
      refine WL_cons hC.fn (.plain rfl (oc_move hC (.tmp rfl) rfl rfl)) ?_
      refine WL_cons hC.fn (.plain rfl (oc_div hC (.inr rfl) (.tmp rfl) .cint (by first | decide | omega) (by first | exact rem_nn (by omega) | rfl) rfl rfl)) ?_
      refine WL_cons hC.fn (.plain rfl (oc_move hC (.tmp rfl) rfl rfl)) ?_
      refine WL_cons hC.fn (.plain rfl (oc_bin hC rfl (.tmp rfl) (.tmp rfl) (r := b.getD k 0 % 128 * p7 k) (i64_mul ⟨Int.le_trans (by decide) hpm.1, Int.le_trans hpm.2 (by decide)⟩) rfl rfl)) ?_
      refine WL_cons hC.fn (.plain rfl (oc_bin hC rfl (.tmp rfl) (.tmp rfl) (r := vnum (b.take (k + 1))) (by rw [← vnum_step (by omega)]; generalize b.getD k 0 % 128 * p7 k = y at *; exact i64_conv (by omega)) rfl rfl)) ?_
      refine WL_cons hC.fn (.plain rfl (oc_assign hC (.tmp rfl) rfl rfl)) ?_
      refine WL_nil ?_
      refine W_seq ?_
      refine W_region ?_
      refine WL_cons hC.fn (.plain rfl (oc_move hC (.tmp rfl) rfl rfl)) ?_
      refine WL_cons hC.fn (.plain rfl (oc_bin hC rfl (.tmp rfl) .cint (r := p7 (k + 1)) (by rw [← p7_succ]; exact i64_conv (by omega)) rfl rfl)) ?_
      refine WL_cons hC.fn (.plain rfl (oc_assign hC (.tmp rfl) rfl rfl)) ?_
      refine WL_nil ?_
      refine W_seq ?_
      refine W_seq ?_
      refine W_region ?_
      refine WL_cons hC.fn (.plain rfl (oc_move hC (.tmp rfl) rfl rfl)) ?_
      refine WL_cons hC.fn (.plain rfl (ox_cmp hC rfl (.tmp rfl) .cint (r := true) (by have := hhi k (by omega); simp only [cmpI]; exact decide_eq_true (by omega)) rfl rfl)) ?_
      refine WL_nil ?_
      refine W_cond rfl (by decide) (fun _ => ?_) (fun hc => by cases hc)
      refine W_exit ?_
      refine W_region ?_
      refine WL_cons hC.fn (.plain rfl (oc_move hC (.tmp rfl) rfl rfl)) ?_
      refine WL_cons hC.fn (.plain rfl (oc_bin hC rfl (.tmp rfl) .cint (by first | exact i64_add (by omega) | rfl) rfl rfl)) ?_
      refine WL_cons hC.fn (.plain rfl (oc_assign hC (.tmp rfl) rfl rfl)) ?_
      refine WL_nil ?_
      exact ⟨(k + 1), ⟨by omega, by omega⟩, (weak (fun k => k) (.cons rfl (by first | rfl | exact congrArg (AV.i _) (by omega) | exact congrArg (AV.i _) (by simp; omega)) trivial (.cons rfl (by first | rfl | simp) (by show _ < _; decide) (.cons rfl (by first | rfl | simp) (by show _ < _; decide) (.cons rfl rfl trivial (.cons rfl rfl trivial (.cons rfl (by first | rfl | exact congrArg (AV.i _) (by omega) | exact congrArg (AV.i _) (by simp; omega)) trivial .nil)))))) (.cons rfl (Blk.ren_free (by simp) _) rfl (by first | exact inSL_I _ | simp) (.cons rfl (Blk.ren_free (by simp) _) rfl (by first | exact inSL_I _ | simp) .nil)) rfl rfl rfl), (by omega)⟩
  ·
    replace hc := lss_f hc
    
    refine W_exit ?_
    refine W_seq ?_
    refine W_region ?_
    refine WL_cons hC.fn (.plain rfl (oc_field hC (.tmp rfl) fld_45_0 (by decide) (by first | exact .p (Nat.zero_add _) | exact .p rfl | exact .rp (by decide)) rfl rfl)) ?_
    refine WL_cons hC.fn (.plain rfl (oc_load hC (.tmp rfl) (by first | exact .p rfl | exact .rp) shp_22 (by first | exact unit_one rfl | exact unit_I (by first | omega | (simp; omega)) | exact unit_c rfl (by decide) | exact unit_c rfl (by simp)) rfl rfl)) ?_
    refine WL_cons hC.fn (.plain rfl (ox_build (out' := [.vs n (I .u8 b), .i .i64 4]) hC (.cons (.tmp rfl) (.cons .cint .nil)) zero_45 bld_45 rfl rfl rfl rfl)) ?_
    refine WL_cons hC.fn (.plain rfl (ox_store hC (.tmp rfl) (.tmp rfl) rfl shp_45 (by first | rfl | exact flat_agI) rfl (by first | exact Nat.le_refl _ | exact Nat.le_of_ble_eq_true rfl | decide | (simp <;> fail) | (simp; omega)) rfl (by first | exact .here | exact .there (.here) rfl | exact .there (.there (.here) rfl) rfl | exact .there (.there (.there (.here) rfl) rfl) rfl | exact .there (.there (.there (.there (.here) rfl) rfl) rfl) rfl | exact .there (.there (.there (.there (.there (.here) rfl) rfl) rfl) rfl) rfl | exact .there (.there (.there (.there (.there (.there (.here) rfl) rfl) rfl) rfl) rfl) rfl | exact .there (.there (.there (.there (.there (.there (.there (.here) rfl) rfl) rfl) rfl) rfl) rfl) rfl | exact .there (.there (.there (.there (.there (.there (.there (.there (.here) rfl) rfl) rfl) rfl) rfl) rfl) rfl) rfl | exact .there (.there (.there (.there (.there (.there (.there (.there (.there (.here) rfl) rfl) rfl) rfl) rfl) rfl) rfl) rfl) rfl) rfl)) ?_
    refine WL_cons hC.fn (.plain rfl (oc_assign hC .cint rfl rfl)) ?_
    refine WL_nil ?_
    refine W_ret ?_
    exact fin0 (.cons (.cell rfl (.p rfl) shp_45 (unit_agg rfl)) (.cons (.tmp rfl) .nil)) rfl (by simp)
set_option maxRecDepth 20000 in
set_option maxHeartbeats 4000000 in
theorem rreadnought_c (n : Nat) (b : List Int) (e : Int) (hb : b.length = n) (hb8 : B8 b) (hl : n ≤ 1099511627776) (most : Int) (he : e = 0) (h : ix7 b < n) (h6 : ix7 b < 6) (h0 : 0 < ix7 b) (hz : b.getD (ix7 b) 0 = 0) : FnC Try.prog 23 [] [.ag [.vs n (I .u8 b), .i .i64 e], .i .i64 most] [] [] (.tu [.ag [.vs n (I .u8 b), .i .i64 4], .i .i64 0]) := by
  have hix := ix7_le b
  have hhi : ∀ k, k < ix7 b → ¬ b.getD k 0 < 128 := fun k hk hlt => by
    have := (ix7_spec b k (by omega) (by omega)).1 hlt; omega
  refine FnC.introR (N0 := 0) (T := 71) (E := [(0, .ag [.vs n (I .u8 b), .i .i64 e]), (1, .i .i64 most)]) Try.func23 rfl (by decide) mix rfl rfl rfl (by simp) rfl ⟨(by first | exact inSL_I _ | trivial | simp), (by first | exact inSL_I _ | trivial | simp), trivial⟩ (by simp) (by intro S _ _ h; simp) (fun F n0 X w ρ hC hro => ?_)
  refine W_seq ?_
  refine W_region ?_
  refine WL_cons hC.fn (.plain rfl (ox_box hC (.tmp rfl) (by first | rfl | exact flat_agI) (by first | exact cells_ag | rfl) rfl rfl)) ?_
  refine WL_cons hC.fn (.plain rfl (ox_alloc hC zero_45 rfl rfl rfl)) ?_
  refine WL_cons hC.fn (.plain rfl (oc_assign hC .cint rfl rfl)) ?_
  refine WL_nil ?_
  refine W_seq ?_
  refine W_seq ?_
  refine W_region ?_
  refine WL_cons hC.fn (.plain rfl (oc_field hC (.tmp rfl) fld_45_1 (by decide) (by first | exact .p (Nat.zero_add _) | exact .p rfl | exact .rp (by decide)) rfl rfl)) ?_
  refine WL_cons hC.fn (.plain rfl (oc_load hC (.tmp rfl) (by first | exact .p rfl | exact .rp) shp_27 (by first | exact unit_one rfl | exact unit_I (by first | omega | (simp; omega)) | exact unit_c rfl (by decide) | exact unit_c rfl (by simp)) rfl rfl)) ?_
  refine WL_cons hC.fn (.plain rfl (ox_cmp hC rfl (.tmp rfl) .cint (r := false) (by simp only [cmpI]; exact decide_eq_false (by omega)) rfl rfl)) ?_
  refine WL_nil ?_
  refine W_cond rfl (by decide) (fun hc => by cases hc) (fun _ => ?_)
  refine W_skip ?_
  refine W_seq ?_
  refine W_region ?_
  refine WL_cons hC.fn (.plain rfl (oc_assign hC .cint rfl rfl)) ?_
  refine WL_nil ?_
  refine W_seq ?_
  refine W_region ?_
  refine WL_cons hC.fn (.plain rfl (oc_assign hC .cint rfl rfl)) ?_
  refine WL_nil ?_
  refine W_seq ?_
  refine W_seq ?_
  refine W_region ?_
  refine WL_cons hC.fn (.plain rfl (oc_assign hC .cint rfl rfl)) ?_
  refine WL_nil ?_
  refine W_blk ?_
  refine W_loopW (fun (ζ : Nat) => ⟨2, [(1, .i .i64 most), (2, .p 0 0), (4, .p 1 0), (6, .i .i64 (vnum (b.take ζ))), (7, .i .i64 (p7 ζ)), (8, .i .i64 ζ)], [(0, .blk 45 [.vs n (I .u8 b), .i .i64 e]), (1, .blk 45 [.nils, .i .i64 0])]⟩) (fun ζ => ζ ≤ ix7 b ∧ ζ ≤ 6) (fun ζ => 6 - ζ) (0) ⟨Nat.zero_le _, Nat.zero_le _⟩ (weak (fun k => k) (.cons rfl (by first | rfl | exact congrArg (AV.i _) (by omega) | exact congrArg (AV.i _) (by simp; omega)) trivial (.cons rfl (by first | rfl | simp) (by show _ < _; decide) (.cons rfl (by first | rfl | simp) (by show _ < _; decide) (.cons rfl (congrArg (AV.i _) (by rw [List.take_zero]; unfold vnum; rfl)) trivial (.cons rfl (congrArg (AV.i _) p7_zero) trivial (.cons rfl rfl trivial .nil)))))) (.cons rfl (Blk.ren_free (by simp) _) rfl (by first | exact inSL_I _ | simp) (.cons rfl (Blk.ren_free (by simp) _) rfl (by first | exact inSL_I _ | simp) .nil)) rfl rfl rfl) ?_
  intro k hR
  replace hR : k ≤ ix7 b ∧ k ≤ 6 := hR
  first | show W _ _ _ ⟨2, [(1, .i .i64 most), (2, .p 0 0), (4, .p 1 0), (6, .i .i64 (vnum (b.take k))), (7, .i .i64 (p7 k)), (8, .i .i64 k)], [(0, .blk 45 [.vs n (I .u8 b), .i .i64 e]), (1, .blk 45 [.nils, .i .i64 0])]⟩ | skip
  have hck := hb8.get k
  have hvk := vnum_lt (l := b.take k) (by rw [List.length_take]; omega)
  refine W_seq ?_
  refine W_seq ?_
  refine W_region ?_
  refine WL_cons hC.fn (.plain rfl (oc_move hC (.tmp rfl) rfl rfl)) ?_
  refine WL_cons hC.fn (.plain rfl (ox_cmp hC rfl (.tmp rfl) .cint rfl rfl rfl)) ?_
  refine WL_nil ?_
  refine W_cond rfl (by decide) (fun hc => ?_) (fun hc => ?_)
  ·
    replace hc := lss_t hc
    have hpk := p7_small (i := k) (by omega)
    have hpm := p7_mul (i := k) (x := b.getD k 0 % 128) (by omega) (by omega)
    refine W_skip ?_
    refine W_seq ?_
    refine W_blk ?_
    refine W_seq ?_
    refine W_seq ?_
    refine W_region ?_
    refine WL_cons hC.fn (.plain rfl (oc_move hC (.tmp rfl) rfl rfl)) ?_
    refine WL_cons hC.fn (.plain rfl (oc_field hC (.tmp rfl) fld_45_0 (by decide) (by first | exact .p (Nat.zero_add _) | exact .p rfl | exact .rp (by decide)) rfl rfl)) ?_
    refine WL_cons hC.fn (.plain rfl (oc_load hC (.tmp rfl) (by first | exact .p rfl | exact .rp) shp_22 (by first | exact unit_one rfl | exact unit_I (by first | omega | (simp; omega)) | exact unit_c rfl (by decide) | exact unit_c rfl (by simp)) rfl rfl)) ?_
    refine WL_cons hC.fn (.plain rfl (ox_len hC (.tmp rfl) (by first | exact .row rfl | exact .vs | exact .sl rfl | exact .nils) Try.underlying22 rfl rfl rfl)) ?_
    refine WL_cons hC.fn (.plain rfl (ox_cmp hC rfl (.tmp rfl) (.tmp rfl) rfl rfl rfl)) ?_
    refine WL_nil ?_
    refine W_cond rfl (by decide) (fun hc => ?_) (fun hc => ?_)
    ·
      replace hc := eql_t hc
      exfalso
      omega
    ·
      replace hc := eql_f hc
      
      refine W_skip ?_
      refine W_seq ?_
      refine W_region ?_
      refine WL_cons hC.fn (.plain rfl (oc_field hC (.tmp rfl) fld_45_0 (by decide) (by first | exact .p (Nat.zero_add _) | exact .p rfl | exact .rp (by decide)) rfl rfl)) ?_
      refine WL_cons hC.fn (.plain rfl (oc_load hC (.tmp rfl) (by first | exact .p rfl | exact .rp) shp_22 (by first | exact unit_one rfl | exact unit_I (by first | omega | (simp; omega)) | exact unit_c rfl (by decide) | exact unit_c rfl (by simp)) rfl rfl)) ?_
      refine WL_cons hC.fn (.plain rfl (oc_move hC (.tmp rfl) rfl rfl)) ?_
      refine WL_cons hC.fn (.plain rfl (ox_indexS hC  (.tmp rfl) (.tmp rfl) idx_22 (by first | rfl | exact toNat_up (by omega)) (by first | exact Nat.mul_one _ | rfl) (by first | exact .row rfl | exact .sl (Nat.zero_add _) | exact .sl rfl | exact .vs (by first | omega | (simp; omega))) (by first | omega | (simp; omega)) rfl rfl)) ?_
      refine WL_cons hC.fn (.plain rfl (oc_load hC (.tmp rfl) (by first | exact .p rfl | exact .rp) shp_5 (by exact (unit_I (by first | omega | (simp; omega)))) rfl rfl)) ?_
      refine WL_cons hC.fn (.plain rfl (oc_conv hC (.tmp rfl) rfl Try.underlying3 (by first | exact i64_conv (by omega) | rfl) rfl rfl)) ?_
      refine WL_cons hC.fn (.plain rfl (oc_assign hC (.tmp rfl) rfl rfl)) ?_
      refine WL_nil ?_
      refine W_seq ?_
      refine W_region ?_
      refine WL_cons hC.fn (.plain rfl (oc_move hC (.tmp rfl) rfl rfl)) ?_
      refine WL_cons hC.fn (.plain rfl (oc_move hC (.tmp rfl) rfl rfl)) ?_
      refine WL_cons hC.fn (.plain rfl (oc_div hC (.inr rfl) (.tmp rfl) .cint (by first | decide | omega) (by first | exact rem_nn (by omega) | rfl) rfl rfl)) ?_
      refine WL_cons hC.fn (.plain rfl (oc_move hC (.tmp rfl) rfl rfl)) ?_
      refine WL_cons hC.fn (.plain rfl (oc_bin hC rfl (.tmp rfl) (.tmp rfl) (r := b.getD k 0 % 128 * p7 k) (i64_mul ⟨Int.le_trans (by decide) hpm.1, Int.le_trans hpm.2 (by decide)⟩) rfl rfl)) ?_
      refine WL_cons hC.fn (.plain rfl (oc_bin hC rfl (.tmp rfl) (.tmp rfl) (r := vnum (b.take (k + 1))) (by rw [← vnum_step (by omega)]; generalize b.getD k 0 % 128 * p7 k = y at *; exact i64_conv (by omega)) rfl rfl)) ?_
      refine WL_cons hC.fn (.plain rfl (oc_assign hC (.tmp rfl) rfl rfl)) ?_
      refine WL_nil ?_
      refine W_seq ?_
      refine W_region ?_
      refine WL_cons hC.fn (.plain rfl (oc_move hC (.tmp rfl) rfl rfl)) ?_
      refine WL_cons hC.fn (.plain rfl (oc_bin hC rfl (.tmp rfl) .cint (r := p7 (k + 1)) (by rw [← p7_succ]; exact i64_conv (by omega)) rfl rfl)) ?_
      refine WL_cons hC.fn (.plain rfl (oc_assign hC (.tmp rfl) rfl rfl)) ?_
      refine WL_nil ?_
      refine W_seq ?_
      refine W_seq ?_
      rcases (show k < ix7 b ∨ k = ix7 b by omega) with hkx | hkx
      ·
        refine W_region ?_
        refine WL_cons hC.fn (.plain rfl (oc_move hC (.tmp rfl) rfl rfl)) ?_
        refine WL_cons hC.fn (.plain rfl (ox_cmp hC rfl (.tmp rfl) .cint (r := true) (by have := hhi k hkx; simp only [cmpI]; exact decide_eq_true (by omega)) rfl rfl)) ?_
        refine WL_nil ?_
        refine W_cond rfl (by decide) (fun _ => ?_) (fun hc => by cases hc)
        refine W_exit ?_
        refine W_region ?_
        refine WL_cons hC.fn (.plain rfl (oc_move hC (.tmp rfl) rfl rfl)) ?_
        refine WL_cons hC.fn (.plain rfl (oc_bin hC rfl (.tmp rfl) .cint (by first | exact i64_add (by omega) | rfl) rfl rfl)) ?_
        refine WL_cons hC.fn (.plain rfl (oc_assign hC (.tmp rfl) rfl rfl)) ?_
        refine WL_nil ?_
        exact ⟨(k + 1), ⟨by omega, by omega⟩, (weak (fun k => k) (.cons rfl (by first | rfl | exact congrArg (AV.i _) (by omega) | exact congrArg (AV.i _) (by simp; omega)) trivial (.cons rfl (by first | rfl | simp) (by show _ < _; decide) (.cons rfl (by first | rfl | simp) (by show _ < _; decide) (.cons rfl rfl trivial (.cons rfl rfl trivial (.cons rfl (by first | rfl | exact congrArg (AV.i _) (by omega) | exact congrArg (AV.i _) (by simp; omega)) trivial .nil)))))) (.cons rfl (Blk.ren_free (by simp) _) rfl (by first | exact inSL_I _ | simp) (.cons rfl (Blk.ren_free (by simp) _) rfl (by first | exact inSL_I _ | simp) .nil)) rfl rfl rfl), (by omega)⟩
      ·
        refine W_region ?_
        refine WL_cons hC.fn (.plain rfl (oc_move hC (.tmp rfl) rfl rfl)) ?_
        refine WL_cons hC.fn (.plain rfl (ox_cmp hC rfl (.tmp rfl) .cint (r := false) (by rw [hkx]; simp only [cmpI]; exact decide_eq_false (by have := ix7_at (b := b) (by omega); omega)) rfl rfl)) ?_
        refine WL_nil ?_
        refine W_cond rfl (by decide) (fun hc => by cases hc) (fun _ => ?_)
        refine W_skip ?_
        refine W_seq ?_
        refine W_seq ?_
        refine W_region ?_
        refine WL_cons hC.fn (.plain rfl (oc_move hC (.tmp rfl) rfl rfl)) ?_
        refine WL_cons hC.fn (.plain rfl (ox_cmp hC rfl (.tmp rfl) .cint (r := true) (by simp only [cmpI]; exact decide_eq_true (by omega)) rfl rfl)) ?_
        refine WL_cons hC.fn (.plain rfl (oc_move hC (.tmp rfl) rfl rfl)) ?_
        refine WL_cons hC.fn (.yes rfl rfl (by decide) rfl (oc_move hC (.tmp rfl) rfl rfl)) ?_
        refine WL_cons hC.fn (.yes rfl rfl (by decide) rfl (ox_cmp hC rfl (.tmp rfl) .cint (r := true) (by rw [hkx, hz]; rfl) rfl rfl)) ?_
        refine WL_cons hC.fn (.plain rfl (ox_pick hC (.tmp rfl) (.tmp rfl) .cbool (by first | exact pick_t | exact pick_f | rfl) rfl rfl)) ?_
        refine WL_nil ?_
        refine W_cond rfl (by decide) (fun _ => ?_) (fun hc => by cases hc)
        refine W_seq ?_
        refine W_region ?_
        refine WL_cons hC.fn (.plain rfl (oc_field hC (.tmp rfl) fld_45_0 (by decide) (by first | exact .p (Nat.zero_add _) | exact .p rfl | exact .rp (by decide)) rfl rfl)) ?_
        refine WL_cons hC.fn (.plain rfl (oc_load hC (.tmp rfl) (by first | exact .p rfl | exact .rp) shp_22 (by first | exact unit_one rfl | exact unit_I (by first | omega | (simp; omega)) | exact unit_c rfl (by decide) | exact unit_c rfl (by simp)) rfl rfl)) ?_
        refine WL_cons hC.fn (.plain rfl (ox_build (out' := [.vs n (I .u8 b), .i .i64 4]) hC (.cons (.tmp rfl) (.cons .cint .nil)) zero_45 bld_45 rfl rfl rfl rfl)) ?_
        refine WL_cons hC.fn (.plain rfl (ox_store hC (.tmp rfl) (.tmp rfl) rfl shp_45 (by first | rfl | exact flat_agI) rfl (by first | exact Nat.le_refl _ | exact Nat.le_of_ble_eq_true rfl | decide | (simp <;> fail) | (simp; omega)) rfl (by first | exact .here | exact .there (.here) rfl | exact .there (.there (.here) rfl) rfl | exact .there (.there (.there (.here) rfl) rfl) rfl | exact .there (.there (.there (.there (.here) rfl) rfl) rfl) rfl | exact .there (.there (.there (.there (.there (.here) rfl) rfl) rfl) rfl) rfl | exact .there (.there (.there (.there (.there (.there (.here) rfl) rfl) rfl) rfl) rfl) rfl | exact .there (.there (.there (.there (.there (.there (.there (.here) rfl) rfl) rfl) rfl) rfl) rfl) rfl | exact .there (.there (.there (.there (.there (.there (.there (.there (.here) rfl) rfl) rfl) rfl) rfl) rfl) rfl) rfl | exact .there (.there (.there (.there (.there (.there (.there (.there (.there (.here) rfl) rfl) rfl) rfl) rfl) rfl) rfl) rfl) rfl) rfl)) ?_
        refine WL_cons hC.fn (.plain rfl (oc_assign hC .cint rfl rfl)) ?_
        refine WL_nil ?_
        refine W_ret ?_
        exact fin0 (.cons (.cell rfl (.p rfl) shp_45 (unit_agg rfl)) (.cons (.tmp rfl) .nil)) rfl (by simp)
  ·
    replace hc := lss_f hc
    exfalso
    omega
set_option maxRecDepth 20000 in
set_option maxHeartbeats 4000000 in
theorem rreadgreat_c (n : Nat) (b : List Int) (e : Int) (hb : b.length = n) (hb8 : B8 b) (hl : n ≤ 1099511627776) (most : Int) (he : e = 0) (h : ix7 b < n) (h6 : ix7 b < 6) (hz : ix7 b = 0 ∨ b.getD (ix7 b) 0 ≠ 0) (hm : most < vnum (b.take (ix7 b + 1)) ∨ (vnum (b.take (ix7 b + 1)) ≤ most ∧ 1099511627775 < vnum (b.take (ix7 b + 1)))) : FnC Try.prog 23 [] [.ag [.vs n (I .u8 b), .i .i64 e], .i .i64 most] [] [] (.tu [.ag [.vs n (I .u8 b), .i .i64 3], .i .i64 0]) := by
  have hix := ix7_le b
  have hhi : ∀ k, k < ix7 b → ¬ b.getD k 0 < 128 := fun k hk hlt => by
    have := (ix7_spec b k (by omega) (by omega)).1 hlt; omega
  refine FnC.introR (N0 := 0) (T := 71) (E := [(0, .ag [.vs n (I .u8 b), .i .i64 e]), (1, .i .i64 most)]) Try.func23 rfl (by decide) mix rfl rfl rfl (by simp) rfl ⟨(by first | exact inSL_I _ | trivial | simp), (by first | exact inSL_I _ | trivial | simp), trivial⟩ (by simp) (by intro S _ _ h; simp) (fun F n0 X w ρ hC hro => ?_)
  refine W_seq ?_
  refine W_region ?_
  refine WL_cons hC.fn (.plain rfl (ox_box hC (.tmp rfl) (by first | rfl | exact flat_agI) (by first | exact cells_ag | rfl) rfl rfl)) ?_
  refine WL_cons hC.fn (.plain rfl (ox_alloc hC zero_45 rfl rfl rfl)) ?_
  refine WL_cons hC.fn (.plain rfl (oc_assign hC .cint rfl rfl)) ?_
  refine WL_nil ?_
  refine W_seq ?_
  refine W_seq ?_
  refine W_region ?_
  refine WL_cons hC.fn (.plain rfl (oc_field hC (.tmp rfl) fld_45_1 (by decide) (by first | exact .p (Nat.zero_add _) | exact .p rfl | exact .rp (by decide)) rfl rfl)) ?_
  refine WL_cons hC.fn (.plain rfl (oc_load hC (.tmp rfl) (by first | exact .p rfl | exact .rp) shp_27 (by first | exact unit_one rfl | exact unit_I (by first | omega | (simp; omega)) | exact unit_c rfl (by decide) | exact unit_c rfl (by simp)) rfl rfl)) ?_
  refine WL_cons hC.fn (.plain rfl (ox_cmp hC rfl (.tmp rfl) .cint (r := false) (by simp only [cmpI]; exact decide_eq_false (by omega)) rfl rfl)) ?_
  refine WL_nil ?_
  refine W_cond rfl (by decide) (fun hc => by cases hc) (fun _ => ?_)
  refine W_skip ?_
  refine W_seq ?_
  refine W_region ?_
  refine WL_cons hC.fn (.plain rfl (oc_assign hC .cint rfl rfl)) ?_
  refine WL_nil ?_
  refine W_seq ?_
  refine W_region ?_
  refine WL_cons hC.fn (.plain rfl (oc_assign hC .cint rfl rfl)) ?_
  refine WL_nil ?_
  refine W_seq ?_
  refine W_seq ?_
  refine W_region ?_
  refine WL_cons hC.fn (.plain rfl (oc_assign hC .cint rfl rfl)) ?_
  refine WL_nil ?_
  refine W_blk ?_
  refine W_loopW (fun (ζ : Nat) => ⟨2, [(1, .i .i64 most), (2, .p 0 0), (4, .p 1 0), (6, .i .i64 (vnum (b.take ζ))), (7, .i .i64 (p7 ζ)), (8, .i .i64 ζ)], [(0, .blk 45 [.vs n (I .u8 b), .i .i64 e]), (1, .blk 45 [.nils, .i .i64 0])]⟩) (fun ζ => ζ ≤ ix7 b ∧ ζ ≤ 6) (fun ζ => 6 - ζ) (0) ⟨Nat.zero_le _, Nat.zero_le _⟩ (weak (fun k => k) (.cons rfl (by first | rfl | exact congrArg (AV.i _) (by omega) | exact congrArg (AV.i _) (by simp; omega)) trivial (.cons rfl (by first | rfl | simp) (by show _ < _; decide) (.cons rfl (by first | rfl | simp) (by show _ < _; decide) (.cons rfl (congrArg (AV.i _) (by rw [List.take_zero]; unfold vnum; rfl)) trivial (.cons rfl (congrArg (AV.i _) p7_zero) trivial (.cons rfl rfl trivial .nil)))))) (.cons rfl (Blk.ren_free (by simp) _) rfl (by first | exact inSL_I _ | simp) (.cons rfl (Blk.ren_free (by simp) _) rfl (by first | exact inSL_I _ | simp) .nil)) rfl rfl rfl) ?_
  intro k hR
  replace hR : k ≤ ix7 b ∧ k ≤ 6 := hR
  first | show W _ _ _ ⟨2, [(1, .i .i64 most), (2, .p 0 0), (4, .p 1 0), (6, .i .i64 (vnum (b.take k))), (7, .i .i64 (p7 k)), (8, .i .i64 k)], [(0, .blk 45 [.vs n (I .u8 b), .i .i64 e]), (1, .blk 45 [.nils, .i .i64 0])]⟩ | skip
  have hck := hb8.get k
  have hvk := vnum_lt (l := b.take k) (by rw [List.length_take]; omega)
  refine W_seq ?_
  refine W_seq ?_
  refine W_region ?_
  refine WL_cons hC.fn (.plain rfl (oc_move hC (.tmp rfl) rfl rfl)) ?_
  refine WL_cons hC.fn (.plain rfl (ox_cmp hC rfl (.tmp rfl) .cint rfl rfl rfl)) ?_
  refine WL_nil ?_
  refine W_cond rfl (by decide) (fun hc => ?_) (fun hc => ?_)
  ·
    replace hc := lss_t hc
    have hpk := p7_small (i := k) (by omega)
    have hpm := p7_mul (i := k) (x := b.getD k 0 % 128) (by omega) (by omega)
    refine W_skip ?_
    refine W_seq ?_
    refine W_blk ?_
    refine W_seq ?_
    refine W_seq ?_
    refine W_region ?_
    refine WL_cons hC.fn (.plain rfl (oc_move hC (.tmp rfl) rfl rfl)) ?_
    refine WL_cons hC.fn (.plain rfl (oc_field hC (.tmp rfl) fld_45_0 (by decide) (by first | exact .p (Nat.zero_add _) | exact .p rfl | exact .rp (by decide)) rfl rfl)) ?_
    refine WL_cons hC.fn (.plain rfl (oc_load hC (.tmp rfl) (by first | exact .p rfl | exact .rp) shp_22 (by first | exact unit_one rfl | exact unit_I (by first | omega | (simp; omega)) | exact unit_c rfl (by decide) | exact unit_c rfl (by simp)) rfl rfl)) ?_
    refine WL_cons hC.fn (.plain rfl (ox_len hC (.tmp rfl) (by first | exact .row rfl | exact .vs | exact .sl rfl | exact .nils) Try.underlying22 rfl rfl rfl)) ?_
    refine WL_cons hC.fn (.plain rfl (ox_cmp hC rfl (.tmp rfl) (.tmp rfl) rfl rfl rfl)) ?_
    refine WL_nil ?_
    refine W_cond rfl (by decide) (fun hc => ?_) (fun hc => ?_)
    ·
      replace hc := eql_t hc
      exfalso
      omega
    ·
      replace hc := eql_f hc
      
      refine W_skip ?_
      refine W_seq ?_
      refine W_region ?_
      refine WL_cons hC.fn (.plain rfl (oc_field hC (.tmp rfl) fld_45_0 (by decide) (by first | exact .p (Nat.zero_add _) | exact .p rfl | exact .rp (by decide)) rfl rfl)) ?_
      refine WL_cons hC.fn (.plain rfl (oc_load hC (.tmp rfl) (by first | exact .p rfl | exact .rp) shp_22 (by first | exact unit_one rfl | exact unit_I (by first | omega | (simp; omega)) | exact unit_c rfl (by decide) | exact unit_c rfl (by simp)) rfl rfl)) ?_
      refine WL_cons hC.fn (.plain rfl (oc_move hC (.tmp rfl) rfl rfl)) ?_
      refine WL_cons hC.fn (.plain rfl (ox_indexS hC  (.tmp rfl) (.tmp rfl) idx_22 (by first | rfl | exact toNat_up (by omega)) (by first | exact Nat.mul_one _ | rfl) (by first | exact .row rfl | exact .sl (Nat.zero_add _) | exact .sl rfl | exact .vs (by first | omega | (simp; omega))) (by first | omega | (simp; omega)) rfl rfl)) ?_
      refine WL_cons hC.fn (.plain rfl (oc_load hC (.tmp rfl) (by first | exact .p rfl | exact .rp) shp_5 (by exact (unit_I (by first | omega | (simp; omega)))) rfl rfl)) ?_
      refine WL_cons hC.fn (.plain rfl (oc_conv hC (.tmp rfl) rfl Try.underlying3 (by first | exact i64_conv (by omega) | rfl) rfl rfl)) ?_
      refine WL_cons hC.fn (.plain rfl (oc_assign hC (.tmp rfl) rfl rfl)) ?_
      refine WL_nil ?_
      refine W_seq ?_
      refine W_region ?_
      refine WL_cons hC.fn (.plain rfl (oc_move hC (.tmp rfl) rfl rfl)) ?_
      refine WL_cons hC.fn (.plain rfl (oc_move hC (.tmp rfl) rfl rfl)) ?_
      refine WL_cons hC.fn (.plain rfl (oc_div hC (.inr rfl) (.tmp rfl) .cint (by first | decide | omega) (by first | exact rem_nn (by omega) | rfl) rfl rfl)) ?_
      refine WL_cons hC.fn (.plain rfl (oc_move hC (.tmp rfl) rfl rfl)) ?_
      refine WL_cons hC.fn (.plain rfl (oc_bin hC rfl (.tmp rfl) (.tmp rfl) (r := b.getD k 0 % 128 * p7 k) (i64_mul ⟨Int.le_trans (by decide) hpm.1, Int.le_trans hpm.2 (by decide)⟩) rfl rfl)) ?_
      refine WL_cons hC.fn (.plain rfl (oc_bin hC rfl (.tmp rfl) (.tmp rfl) (r := vnum (b.take (k + 1))) (by rw [← vnum_step (by omega)]; generalize b.getD k 0 % 128 * p7 k = y at *; exact i64_conv (by omega)) rfl rfl)) ?_
      refine WL_cons hC.fn (.plain rfl (oc_assign hC (.tmp rfl) rfl rfl)) ?_
      refine WL_nil ?_
      refine W_seq ?_
      refine W_region ?_
      refine WL_cons hC.fn (.plain rfl (oc_move hC (.tmp rfl) rfl rfl)) ?_
      refine WL_cons hC.fn (.plain rfl (oc_bin hC rfl (.tmp rfl) .cint (r := p7 (k + 1)) (by rw [← p7_succ]; exact i64_conv (by omega)) rfl rfl)) ?_
      refine WL_cons hC.fn (.plain rfl (oc_assign hC (.tmp rfl) rfl rfl)) ?_
      refine WL_nil ?_
      refine W_seq ?_
      refine W_seq ?_
      rcases (show k < ix7 b ∨ k = ix7 b by omega) with hkx | hkx
      ·
        refine W_region ?_
        refine WL_cons hC.fn (.plain rfl (oc_move hC (.tmp rfl) rfl rfl)) ?_
        refine WL_cons hC.fn (.plain rfl (ox_cmp hC rfl (.tmp rfl) .cint (r := true) (by have := hhi k hkx; simp only [cmpI]; exact decide_eq_true (by omega)) rfl rfl)) ?_
        refine WL_nil ?_
        refine W_cond rfl (by decide) (fun _ => ?_) (fun hc => by cases hc)
        refine W_exit ?_
        refine W_region ?_
        refine WL_cons hC.fn (.plain rfl (oc_move hC (.tmp rfl) rfl rfl)) ?_
        refine WL_cons hC.fn (.plain rfl (oc_bin hC rfl (.tmp rfl) .cint (by first | exact i64_add (by omega) | rfl) rfl rfl)) ?_
        refine WL_cons hC.fn (.plain rfl (oc_assign hC (.tmp rfl) rfl rfl)) ?_
        refine WL_nil ?_
        exact ⟨(k + 1), ⟨by omega, by omega⟩, (weak (fun k => k) (.cons rfl (by first | rfl | exact congrArg (AV.i _) (by omega) | exact congrArg (AV.i _) (by simp; omega)) trivial (.cons rfl (by first | rfl | simp) (by show _ < _; decide) (.cons rfl (by first | rfl | simp) (by show _ < _; decide) (.cons rfl rfl trivial (.cons rfl rfl trivial (.cons rfl (by first | rfl | exact congrArg (AV.i _) (by omega) | exact congrArg (AV.i _) (by simp; omega)) trivial .nil)))))) (.cons rfl (Blk.ren_free (by simp) _) rfl (by first | exact inSL_I _ | simp) (.cons rfl (Blk.ren_free (by simp) _) rfl (by first | exact inSL_I _ | simp) .nil)) rfl rfl rfl), (by omega)⟩
      ·
        rw [← hkx] at hz hm
        refine W_region ?_
        refine WL_cons hC.fn (.plain rfl (oc_move hC (.tmp rfl) rfl rfl)) ?_
        refine WL_cons hC.fn (.plain rfl (ox_cmp hC rfl (.tmp rfl) .cint (r := false) (by rw [hkx]; simp only [cmpI]; exact decide_eq_false (by have := ix7_at (b := b) (by omega); omega)) rfl rfl)) ?_
        refine WL_nil ?_
        refine W_cond rfl (by decide) (fun hc => by cases hc) (fun _ => ?_)
        refine W_skip ?_
        refine W_seq ?_
        refine W_seq ?_
        rcases (show k = 0 ∨ (0 < k ∧ b.getD k 0 ≠ 0) by omega) with hz2 | hz2
        ·
          refine W_region ?_
          refine WL_cons hC.fn (.plain rfl (oc_move hC (.tmp rfl) rfl rfl)) ?_
          refine WL_cons hC.fn (.plain rfl (ox_cmp hC rfl (.tmp rfl) .cint (r := false) (by simp only [cmpI]; exact decide_eq_false (by omega)) rfl rfl)) ?_
          refine WL_cons hC.fn (.plain rfl (oc_move hC (.tmp rfl) rfl rfl)) ?_
          refine WL_cons hC.fn (.no (s1 := ⟨_, (45, .tu []) :: _, _⟩) rfl rfl (by decide) rfl (by decide) (fun t ht => by cases ht; exact ⟨blt_lt rfl, blt_lt rfl⟩) (fun t => setE_cons _ _ _ _) rfl rfl) ?_
          refine WL_cons hC.fn (.no (s1 := ⟨_, (46, .tu []) :: _, _⟩) rfl rfl (by decide) rfl (by decide) (fun t ht => by cases ht; exact ⟨blt_lt rfl, blt_lt rfl⟩) (fun t => setE_cons _ _ _ _) rfl rfl) ?_
          refine WL_cons hC.fn (.plain rfl (ox_pick hC (.tmp rfl) (.tmp rfl) .cbool (by first | exact pick_t | exact pick_f | rfl) rfl rfl)) ?_
          refine WL_nil ?_
          refine W_cond rfl (by decide) (fun hc => by cases hc) (fun _ => ?_)
          refine W_skip ?_
          refine W_seq ?_
          refine W_seq ?_
          rcases hm with hm | hm
          ·
            refine W_region ?_
            refine WL_cons hC.fn (.plain rfl (oc_move hC (.tmp rfl) rfl rfl)) ?_
            refine WL_cons hC.fn (.plain rfl (oc_move hC (.tmp rfl) rfl rfl)) ?_
            refine WL_cons hC.fn (.plain rfl (ox_cmp hC rfl (.tmp rfl) (.tmp rfl) (r := true) (by simp only [cmpI]; exact decide_eq_true (by omega)) rfl rfl)) ?_
            refine WL_cons hC.fn (.plain rfl (oc_move hC (.tmp rfl) rfl rfl)) ?_
            refine WL_cons hC.fn (.no (s1 := ⟨_, (55, .tu []) :: _, _⟩) rfl rfl (by decide) rfl (by decide) (fun t ht => by cases ht; exact ⟨blt_lt rfl, blt_lt rfl⟩) (fun t => setE_cons _ _ _ _) rfl rfl) ?_
            refine WL_cons hC.fn (.no (s1 := ⟨_, (56, .tu []) :: _, _⟩) rfl rfl (by decide) rfl (by decide) (fun t ht => by cases ht; exact ⟨blt_lt rfl, blt_lt rfl⟩) (fun t => setE_cons _ _ _ _) rfl rfl) ?_
            refine WL_cons hC.fn (.plain rfl (ox_pick hC (.tmp rfl) .cbool (.tmp rfl) (by first | exact pick_t | exact pick_f | rfl) rfl rfl)) ?_
            refine WL_nil ?_
            refine W_cond rfl (by decide) (fun _ => ?_) (fun hc => by cases hc)
            refine W_seq ?_
            refine W_region ?_
            refine WL_cons hC.fn (.plain rfl (oc_field hC (.tmp rfl) fld_45_0 (by decide) (by first | exact .p (Nat.zero_add _) | exact .p rfl | exact .rp (by decide)) rfl rfl)) ?_
            refine WL_cons hC.fn (.plain rfl (oc_load hC (.tmp rfl) (by first | exact .p rfl | exact .rp) shp_22 (by first | exact unit_one rfl | exact unit_I (by first | omega | (simp; omega)) | exact unit_c rfl (by decide) | exact unit_c rfl (by simp)) rfl rfl)) ?_
            refine WL_cons hC.fn (.plain rfl (ox_build (out' := [.vs n (I .u8 b), .i .i64 3]) hC (.cons (.tmp rfl) (.cons .cint .nil)) zero_45 bld_45 rfl rfl rfl rfl)) ?_
            refine WL_cons hC.fn (.plain rfl (ox_store hC (.tmp rfl) (.tmp rfl) rfl shp_45 (by first | rfl | exact flat_agI) rfl (by first | exact Nat.le_refl _ | exact Nat.le_of_ble_eq_true rfl | decide | (simp <;> fail) | (simp; omega)) rfl (by first | exact .here | exact .there (.here) rfl | exact .there (.there (.here) rfl) rfl | exact .there (.there (.there (.here) rfl) rfl) rfl | exact .there (.there (.there (.there (.here) rfl) rfl) rfl) rfl | exact .there (.there (.there (.there (.there (.here) rfl) rfl) rfl) rfl) rfl | exact .there (.there (.there (.there (.there (.there (.here) rfl) rfl) rfl) rfl) rfl) rfl | exact .there (.there (.there (.there (.there (.there (.there (.here) rfl) rfl) rfl) rfl) rfl) rfl) rfl | exact .there (.there (.there (.there (.there (.there (.there (.there (.here) rfl) rfl) rfl) rfl) rfl) rfl) rfl) rfl | exact .there (.there (.there (.there (.there (.there (.there (.there (.there (.here) rfl) rfl) rfl) rfl) rfl) rfl) rfl) rfl) rfl) rfl)) ?_
            refine WL_cons hC.fn (.plain rfl (oc_assign hC .cint rfl rfl)) ?_
            refine WL_nil ?_
            refine W_ret ?_
            exact fin0 (.cons (.cell rfl (.p rfl) shp_45 (unit_agg rfl)) (.cons (.tmp rfl) .nil)) rfl (by simp)
          ·
            refine W_region ?_
            refine WL_cons hC.fn (.plain rfl (oc_move hC (.tmp rfl) rfl rfl)) ?_
            refine WL_cons hC.fn (.plain rfl (oc_move hC (.tmp rfl) rfl rfl)) ?_
            refine WL_cons hC.fn (.plain rfl (ox_cmp hC rfl (.tmp rfl) (.tmp rfl) (r := false) (by simp only [cmpI]; exact decide_eq_false (by omega)) rfl rfl)) ?_
            refine WL_cons hC.fn (.plain rfl (oc_move hC (.tmp rfl) rfl rfl)) ?_
            refine WL_cons hC.fn (.yes rfl rfl (by decide) rfl (oc_move hC (.tmp rfl) rfl rfl)) ?_
            refine WL_cons hC.fn (.yes rfl rfl (by decide) rfl (ox_cmp hC rfl (.tmp rfl) .cint (r := true) (by simp only [cmpI]; exact decide_eq_true (by omega)) rfl rfl)) ?_
            refine WL_cons hC.fn (.plain rfl (ox_pick hC (.tmp rfl) .cbool (.tmp rfl) (by first | exact pick_t | exact pick_f | rfl) rfl rfl)) ?_
            refine WL_nil ?_
            refine W_cond rfl (by decide) (fun _ => ?_) (fun hc => by cases hc)
            refine W_seq ?_
            refine W_region ?_
            refine WL_cons hC.fn (.plain rfl (oc_field hC (.tmp rfl) fld_45_0 (by decide) (by first | exact .p (Nat.zero_add _) | exact .p rfl | exact .rp (by decide)) rfl rfl)) ?_
            refine WL_cons hC.fn (.plain rfl (oc_load hC (.tmp rfl) (by first | exact .p rfl | exact .rp) shp_22 (by first | exact unit_one rfl | exact unit_I (by first | omega | (simp; omega)) | exact unit_c rfl (by decide) | exact unit_c rfl (by simp)) rfl rfl)) ?_
            refine WL_cons hC.fn (.plain rfl (ox_build (out' := [.vs n (I .u8 b), .i .i64 3]) hC (.cons (.tmp rfl) (.cons .cint .nil)) zero_45 bld_45 rfl rfl rfl rfl)) ?_
            refine WL_cons hC.fn (.plain rfl (ox_store hC (.tmp rfl) (.tmp rfl) rfl shp_45 (by first | rfl | exact flat_agI) rfl (by first | exact Nat.le_refl _ | exact Nat.le_of_ble_eq_true rfl | decide | (simp <;> fail) | (simp; omega)) rfl (by first | exact .here | exact .there (.here) rfl | exact .there (.there (.here) rfl) rfl | exact .there (.there (.there (.here) rfl) rfl) rfl | exact .there (.there (.there (.there (.here) rfl) rfl) rfl) rfl | exact .there (.there (.there (.there (.there (.here) rfl) rfl) rfl) rfl) rfl | exact .there (.there (.there (.there (.there (.there (.here) rfl) rfl) rfl) rfl) rfl) rfl | exact .there (.there (.there (.there (.there (.there (.there (.here) rfl) rfl) rfl) rfl) rfl) rfl) rfl | exact .there (.there (.there (.there (.there (.there (.there (.there (.here) rfl) rfl) rfl) rfl) rfl) rfl) rfl) rfl | exact .there (.there (.there (.there (.there (.there (.there (.there (.there (.here) rfl) rfl) rfl) rfl) rfl) rfl) rfl) rfl) rfl) rfl)) ?_
            refine WL_cons hC.fn (.plain rfl (oc_assign hC .cint rfl rfl)) ?_
            refine WL_nil ?_
            refine W_ret ?_
            exact fin0 (.cons (.cell rfl (.p rfl) shp_45 (unit_agg rfl)) (.cons (.tmp rfl) .nil)) rfl (by simp)
        ·
          refine W_region ?_
          refine WL_cons hC.fn (.plain rfl (oc_move hC (.tmp rfl) rfl rfl)) ?_
          refine WL_cons hC.fn (.plain rfl (ox_cmp hC rfl (.tmp rfl) .cint (r := true) (by simp only [cmpI]; exact decide_eq_true (by omega)) rfl rfl)) ?_
          refine WL_cons hC.fn (.plain rfl (oc_move hC (.tmp rfl) rfl rfl)) ?_
          refine WL_cons hC.fn (.yes rfl rfl (by decide) rfl (oc_move hC (.tmp rfl) rfl rfl)) ?_
          refine WL_cons hC.fn (.yes rfl rfl (by decide) rfl (ox_cmp hC rfl (.tmp rfl) .cint (r := false) (by simp only [cmpI]; exact decide_eq_false hz2.2) rfl rfl)) ?_
          refine WL_cons hC.fn (.plain rfl (ox_pick hC (.tmp rfl) (.tmp rfl) .cbool (by first | exact pick_t | exact pick_f | rfl) rfl rfl)) ?_
          refine WL_nil ?_
          refine W_cond rfl (by decide) (fun hc => by cases hc) (fun _ => ?_)
          refine W_skip ?_
          refine W_seq ?_
          refine W_seq ?_
          rcases hm with hm | hm
          ·
            refine W_region ?_
            refine WL_cons hC.fn (.plain rfl (oc_move hC (.tmp rfl) rfl rfl)) ?_
            refine WL_cons hC.fn (.plain rfl (oc_move hC (.tmp rfl) rfl rfl)) ?_
            refine WL_cons hC.fn (.plain rfl (ox_cmp hC rfl (.tmp rfl) (.tmp rfl) (r := true) (by simp only [cmpI]; exact decide_eq_true (by omega)) rfl rfl)) ?_
            refine WL_cons hC.fn (.plain rfl (oc_move hC (.tmp rfl) rfl rfl)) ?_
            refine WL_cons hC.fn (.no (s1 := ⟨_, (55, .tu []) :: _, _⟩) rfl rfl (by decide) rfl (by decide) (fun t ht => by cases ht; exact ⟨blt_lt rfl, blt_lt rfl⟩) (fun t => setE_cons _ _ _ _) rfl rfl) ?_
            refine WL_cons hC.fn (.no (s1 := ⟨_, (56, .tu []) :: _, _⟩) rfl rfl (by decide) rfl (by decide) (fun t ht => by cases ht; exact ⟨blt_lt rfl, blt_lt rfl⟩) (fun t => setE_cons _ _ _ _) rfl rfl) ?_
            refine WL_cons hC.fn (.plain rfl (ox_pick hC (.tmp rfl) .cbool (.tmp rfl) (by first | exact pick_t | exact pick_f | rfl) rfl rfl)) ?_
            refine WL_nil ?_
            refine W_cond rfl (by decide) (fun _ => ?_) (fun hc => by cases hc)
            refine W_seq ?_
            refine W_region ?_
            refine WL_cons hC.fn (.plain rfl (oc_field hC (.tmp rfl) fld_45_0 (by decide) (by first | exact .p (Nat.zero_add _) | exact .p rfl | exact .rp (by decide)) rfl rfl)) ?_
            refine WL_cons hC.fn (.plain rfl (oc_load hC (.tmp rfl) (by first | exact .p rfl | exact .rp) shp_22 (by first | exact unit_one rfl | exact unit_I (by first | omega | (simp; omega)) | exact unit_c rfl (by decide) | exact unit_c rfl (by simp)) rfl rfl)) ?_
            refine WL_cons hC.fn (.plain rfl (ox_build (out' := [.vs n (I .u8 b), .i .i64 3]) hC (.cons (.tmp rfl) (.cons .cint .nil)) zero_45 bld_45 rfl rfl rfl rfl)) ?_
            refine WL_cons hC.fn (.plain rfl (ox_store hC (.tmp rfl) (.tmp rfl) rfl shp_45 (by first | rfl | exact flat_agI) rfl (by first | exact Nat.le_refl _ | exact Nat.le_of_ble_eq_true rfl | decide | (simp <;> fail) | (simp; omega)) rfl (by first | exact .here | exact .there (.here) rfl | exact .there (.there (.here) rfl) rfl | exact .there (.there (.there (.here) rfl) rfl) rfl | exact .there (.there (.there (.there (.here) rfl) rfl) rfl) rfl | exact .there (.there (.there (.there (.there (.here) rfl) rfl) rfl) rfl) rfl | exact .there (.there (.there (.there (.there (.there (.here) rfl) rfl) rfl) rfl) rfl) rfl | exact .there (.there (.there (.there (.there (.there (.there (.here) rfl) rfl) rfl) rfl) rfl) rfl) rfl | exact .there (.there (.there (.there (.there (.there (.there (.there (.here) rfl) rfl) rfl) rfl) rfl) rfl) rfl) rfl | exact .there (.there (.there (.there (.there (.there (.there (.there (.there (.here) rfl) rfl) rfl) rfl) rfl) rfl) rfl) rfl) rfl) rfl)) ?_
            refine WL_cons hC.fn (.plain rfl (oc_assign hC .cint rfl rfl)) ?_
            refine WL_nil ?_
            refine W_ret ?_
            exact fin0 (.cons (.cell rfl (.p rfl) shp_45 (unit_agg rfl)) (.cons (.tmp rfl) .nil)) rfl (by simp)
          ·
            refine W_region ?_
            refine WL_cons hC.fn (.plain rfl (oc_move hC (.tmp rfl) rfl rfl)) ?_
            refine WL_cons hC.fn (.plain rfl (oc_move hC (.tmp rfl) rfl rfl)) ?_
            refine WL_cons hC.fn (.plain rfl (ox_cmp hC rfl (.tmp rfl) (.tmp rfl) (r := false) (by simp only [cmpI]; exact decide_eq_false (by omega)) rfl rfl)) ?_
            refine WL_cons hC.fn (.plain rfl (oc_move hC (.tmp rfl) rfl rfl)) ?_
            refine WL_cons hC.fn (.yes rfl rfl (by decide) rfl (oc_move hC (.tmp rfl) rfl rfl)) ?_
            refine WL_cons hC.fn (.yes rfl rfl (by decide) rfl (ox_cmp hC rfl (.tmp rfl) .cint (r := true) (by simp only [cmpI]; exact decide_eq_true (by omega)) rfl rfl)) ?_
            refine WL_cons hC.fn (.plain rfl (ox_pick hC (.tmp rfl) .cbool (.tmp rfl) (by first | exact pick_t | exact pick_f | rfl) rfl rfl)) ?_
            refine WL_nil ?_
            refine W_cond rfl (by decide) (fun _ => ?_) (fun hc => by cases hc)
            refine W_seq ?_
            refine W_region ?_
            refine WL_cons hC.fn (.plain rfl (oc_field hC (.tmp rfl) fld_45_0 (by decide) (by first | exact .p (Nat.zero_add _) | exact .p rfl | exact .rp (by decide)) rfl rfl)) ?_
            refine WL_cons hC.fn (.plain rfl (oc_load hC (.tmp rfl) (by first | exact .p rfl | exact .rp) shp_22 (by first | exact unit_one rfl | exact unit_I (by first | omega | (simp; omega)) | exact unit_c rfl (by decide) | exact unit_c rfl (by simp)) rfl rfl)) ?_
            refine WL_cons hC.fn (.plain rfl (ox_build (out' := [.vs n (I .u8 b), .i .i64 3]) hC (.cons (.tmp rfl) (.cons .cint .nil)) zero_45 bld_45 rfl rfl rfl rfl)) ?_
            refine WL_cons hC.fn (.plain rfl (ox_store hC (.tmp rfl) (.tmp rfl) rfl shp_45 (by first | rfl | exact flat_agI) rfl (by first | exact Nat.le_refl _ | exact Nat.le_of_ble_eq_true rfl | decide | (simp <;> fail) | (simp; omega)) rfl (by first | exact .here | exact .there (.here) rfl | exact .there (.there (.here) rfl) rfl | exact .there (.there (.there (.here) rfl) rfl) rfl | exact .there (.there (.there (.there (.here) rfl) rfl) rfl) rfl | exact .there (.there (.there (.there (.there (.here) rfl) rfl) rfl) rfl) rfl | exact .there (.there (.there (.there (.there (.there (.here) rfl) rfl) rfl) rfl) rfl) rfl | exact .there (.there (.there (.there (.there (.there (.there (.here) rfl) rfl) rfl) rfl) rfl) rfl) rfl | exact .there (.there (.there (.there (.there (.there (.there (.there (.here) rfl) rfl) rfl) rfl) rfl) rfl) rfl) rfl | exact .there (.there (.there (.there (.there (.there (.there (.there (.there (.here) rfl) rfl) rfl) rfl) rfl) rfl) rfl) rfl) rfl) rfl)) ?_
            refine WL_cons hC.fn (.plain rfl (oc_assign hC .cint rfl rfl)) ?_
            refine WL_nil ?_
            refine W_ret ?_
            exact fin0 (.cons (.cell rfl (.p rfl) shp_45 (unit_agg rfl)) (.cons (.tmp rfl) .nil)) rfl (by simp)
  ·
    replace hc := lss_f hc
    exfalso
    omega
set_option maxRecDepth 20000 in
set_option maxHeartbeats 4000000 in
theorem rread_c (n : Nat) (b : List Int) (e : Int) (hb : b.length = n) (hb8 : B8 b) (hl : n ≤ 1099511627776) (most : Int) (he : e = 0) (h : ix7 b < n) (h6 : ix7 b < 6) (hz : ix7 b = 0 ∨ b.getD (ix7 b) 0 ≠ 0) (hm : vnum (b.take (ix7 b + 1)) ≤ most ∧ vnum (b.take (ix7 b + 1)) ≤ 1099511627775) : FnC Try.prog 23 [] [.ag [.vs n (I .u8 b), .i .i64 e], .i .i64 most] [] [] (.tu [.ag [.vs (n - (ix7 b + 1)) (I .u8 (b.drop (ix7 b + 1))), .i .i64 0], .i .i64 (vnum (b.take (ix7 b + 1)))]) := by
  have hix := ix7_le b
  have hhi : ∀ k, k < ix7 b → ¬ b.getD k 0 < 128 := fun k hk hlt => by
    have := (ix7_spec b k (by omega) (by omega)).1 hlt; omega
  refine FnC.introR (N0 := 0) (T := 71) (E := [(0, .ag [.vs n (I .u8 b), .i .i64 e]), (1, .i .i64 most)]) Try.func23 rfl (by decide) mix rfl rfl rfl (by simp) rfl ⟨(by first | exact inSL_I _ | trivial | simp), (by first | exact inSL_I _ | trivial | simp), trivial⟩ (by simp) (by intro S _ _ h; simp) (fun F n0 X w ρ hC hro => ?_)
  refine W_seq ?_
  refine W_region ?_
  refine WL_cons hC.fn (.plain rfl (ox_box hC (.tmp rfl) (by first | rfl | exact flat_agI) (by first | exact cells_ag | rfl) rfl rfl)) ?_
  refine WL_cons hC.fn (.plain rfl (ox_alloc hC zero_45 rfl rfl rfl)) ?_
  refine WL_cons hC.fn (.plain rfl (oc_assign hC .cint rfl rfl)) ?_
  refine WL_nil ?_
  refine W_seq ?_
  refine W_seq ?_
  refine W_region ?_
  refine WL_cons hC.fn (.plain rfl (oc_field hC (.tmp rfl) fld_45_1 (by decide) (by first | exact .p (Nat.zero_add _) | exact .p rfl | exact .rp (by decide)) rfl rfl)) ?_
  refine WL_cons hC.fn (.plain rfl (oc_load hC (.tmp rfl) (by first | exact .p rfl | exact .rp) shp_27 (by first | exact unit_one rfl | exact unit_I (by first | omega | (simp; omega)) | exact unit_c rfl (by decide) | exact unit_c rfl (by simp)) rfl rfl)) ?_
  refine WL_cons hC.fn (.plain rfl (ox_cmp hC rfl (.tmp rfl) .cint (r := false) (by simp only [cmpI]; exact decide_eq_false (by omega)) rfl rfl)) ?_
  refine WL_nil ?_
  refine W_cond rfl (by decide) (fun hc => by cases hc) (fun _ => ?_)
  refine W_skip ?_
  refine W_seq ?_
  refine W_region ?_
  refine WL_cons hC.fn (.plain rfl (oc_assign hC .cint rfl rfl)) ?_
  refine WL_nil ?_
  refine W_seq ?_
  refine W_region ?_
  refine WL_cons hC.fn (.plain rfl (oc_assign hC .cint rfl rfl)) ?_
  refine WL_nil ?_
  refine W_seq ?_
  refine W_seq ?_
  refine W_region ?_
  refine WL_cons hC.fn (.plain rfl (oc_assign hC .cint rfl rfl)) ?_
  refine WL_nil ?_
  refine W_blk ?_
  refine W_loopW (fun (ζ : Nat) => ⟨2, [(1, .i .i64 most), (2, .p 0 0), (4, .p 1 0), (6, .i .i64 (vnum (b.take ζ))), (7, .i .i64 (p7 ζ)), (8, .i .i64 ζ)], [(0, .blk 45 [.vs n (I .u8 b), .i .i64 e]), (1, .blk 45 [.nils, .i .i64 0])]⟩) (fun ζ => ζ ≤ ix7 b ∧ ζ ≤ 6) (fun ζ => 6 - ζ) (0) ⟨Nat.zero_le _, Nat.zero_le _⟩ (weak (fun k => k) (.cons rfl (by first | rfl | exact congrArg (AV.i _) (by omega) | exact congrArg (AV.i _) (by simp; omega)) trivial (.cons rfl (by first | rfl | simp) (by show _ < _; decide) (.cons rfl (by first | rfl | simp) (by show _ < _; decide) (.cons rfl (congrArg (AV.i _) (by rw [List.take_zero]; unfold vnum; rfl)) trivial (.cons rfl (congrArg (AV.i _) p7_zero) trivial (.cons rfl rfl trivial .nil)))))) (.cons rfl (Blk.ren_free (by simp) _) rfl (by first | exact inSL_I _ | simp) (.cons rfl (Blk.ren_free (by simp) _) rfl (by first | exact inSL_I _ | simp) .nil)) rfl rfl rfl) ?_
  intro k hR
  replace hR : k ≤ ix7 b ∧ k ≤ 6 := hR
  first | show W _ _ _ ⟨2, [(1, .i .i64 most), (2, .p 0 0), (4, .p 1 0), (6, .i .i64 (vnum (b.take k))), (7, .i .i64 (p7 k)), (8, .i .i64 k)], [(0, .blk 45 [.vs n (I .u8 b), .i .i64 e]), (1, .blk 45 [.nils, .i .i64 0])]⟩ | skip
  have hck := hb8.get k
  have hvk := vnum_lt (l := b.take k) (by rw [List.length_take]; omega)
  refine W_seq ?_
  refine W_seq ?_
  refine W_region ?_
  refine WL_cons hC.fn (.plain rfl (oc_move hC (.tmp rfl) rfl rfl)) ?_
  refine WL_cons hC.fn (.plain rfl (ox_cmp hC rfl (.tmp rfl) .cint rfl rfl rfl)) ?_
  refine WL_nil ?_
  refine W_cond rfl (by decide) (fun hc => ?_) (fun hc => ?_)
  ·
    replace hc := lss_t hc
    have hpk := p7_small (i := k) (by omega)
    have hpm := p7_mul (i := k) (x := b.getD k 0 % 128) (by omega) (by omega)
    refine W_skip ?_
    refine W_seq ?_
    refine W_blk ?_
    refine W_seq ?_
    refine W_seq ?_
    refine W_region ?_
    refine WL_cons hC.fn (.plain rfl (oc_move hC (.tmp rfl) rfl rfl)) ?_
    refine WL_cons hC.fn (.plain rfl (oc_field hC (.tmp rfl) fld_45_0 (by decide) (by first | exact .p (Nat.zero_add _) | exact .p rfl | exact .rp (by decide)) rfl rfl)) ?_
    refine WL_cons hC.fn (.plain rfl (oc_load hC (.tmp rfl) (by first | exact .p rfl | exact .rp) shp_22 (by first | exact unit_one rfl | exact unit_I (by first | omega | (simp; omega)) | exact unit_c rfl (by decide) | exact unit_c rfl (by simp)) rfl rfl)) ?_
    refine WL_cons hC.fn (.plain rfl (ox_len hC (.tmp rfl) (by first | exact .row rfl | exact .vs | exact .sl rfl | exact .nils) Try.underlying22 rfl rfl rfl)) ?_
    refine WL_cons hC.fn (.plain rfl (ox_cmp hC rfl (.tmp rfl) (.tmp rfl) rfl rfl rfl)) ?_
    refine WL_nil ?_
    refine W_cond rfl (by decide) (fun hc => ?_) (fun hc => ?_)
    ·
      replace hc := eql_t hc
      exfalso
      omega
    ·
      replace hc := eql_f hc
      
      refine W_skip ?_
      refine W_seq ?_
      refine W_region ?_
      refine WL_cons hC.fn (.plain rfl (oc_field hC (.tmp rfl) fld_45_0 (by decide) (by first | exact .p (Nat.zero_add _) | exact .p rfl | exact .rp (by decide)) rfl rfl)) ?_
      refine WL_cons hC.fn (.plain rfl (oc_load hC (.tmp rfl) (by first | exact .p rfl | exact .rp) shp_22 (by first | exact unit_one rfl | exact unit_I (by first | omega | (simp; omega)) | exact unit_c rfl (by decide) | exact unit_c rfl (by simp)) rfl rfl)) ?_
      refine WL_cons hC.fn (.plain rfl (oc_move hC (.tmp rfl) rfl rfl)) ?_
      refine WL_cons hC.fn (.plain rfl (ox_indexS hC  (.tmp rfl) (.tmp rfl) idx_22 (by first | rfl | exact toNat_up (by omega)) (by first | exact Nat.mul_one _ | rfl) (by first | exact .row rfl | exact .sl (Nat.zero_add _) | exact .sl rfl | exact .vs (by first | omega | (simp; omega))) (by first | omega | (simp; omega)) rfl rfl)) ?_
      refine WL_cons hC.fn (.plain rfl (oc_load hC (.tmp rfl) (by first | exact .p rfl | exact .rp) shp_5 (by exact (unit_I (by first | omega | (simp; omega)))) rfl rfl)) ?_
      refine WL_cons hC.fn (.plain rfl (oc_conv hC (.tmp rfl) rfl Try.underlying3 (by first | exact i64_conv (by omega) | rfl) rfl rfl)) ?_
      refine WL_cons hC.fn (.plain rfl (oc_assign hC (.tmp rfl) rfl rfl)) ?_
      refine WL_nil ?_
      refine W_seq ?_
      refine W_region ?_
      refine WL_cons hC.fn (.plain rfl (oc_move hC (.tmp rfl) rfl rfl)) ?_
      refine WL_cons hC.fn (.plain rfl (oc_move hC (.tmp rfl) rfl rfl)) ?_
      refine WL_cons hC.fn (.plain rfl (oc_div hC (.inr rfl) (.tmp rfl) .cint (by first | decide | omega) (by first | exact rem_nn (by omega) | rfl) rfl rfl)) ?_
      refine WL_cons hC.fn (.plain rfl (oc_move hC (.tmp rfl) rfl rfl)) ?_
      refine WL_cons hC.fn (.plain rfl (oc_bin hC rfl (.tmp rfl) (.tmp rfl) (r := b.getD k 0 % 128 * p7 k) (i64_mul ⟨Int.le_trans (by decide) hpm.1, Int.le_trans hpm.2 (by decide)⟩) rfl rfl)) ?_
      refine WL_cons hC.fn (.plain rfl (oc_bin hC rfl (.tmp rfl) (.tmp rfl) (r := vnum (b.take (k + 1))) (by rw [← vnum_step (by omega)]; generalize b.getD k 0 % 128 * p7 k = y at *; exact i64_conv (by omega)) rfl rfl)) ?_
      refine WL_cons hC.fn (.plain rfl (oc_assign hC (.tmp rfl) rfl rfl)) ?_
      refine WL_nil ?_
      refine W_seq ?_
      refine W_region ?_
      refine WL_cons hC.fn (.plain rfl (oc_move hC (.tmp rfl) rfl rfl)) ?_
      refine WL_cons hC.fn (.plain rfl (oc_bin hC rfl (.tmp rfl) .cint (r := p7 (k + 1)) (by rw [← p7_succ]; exact i64_conv (by omega)) rfl rfl)) ?_
      refine WL_cons hC.fn (.plain rfl (oc_assign hC (.tmp rfl) rfl rfl)) ?_
      refine WL_nil ?_
      refine W_seq ?_
      refine W_seq ?_
      rcases (show k < ix7 b ∨ k = ix7 b by omega) with hkx | hkx
      ·
        refine W_region ?_
        refine WL_cons hC.fn (.plain rfl (oc_move hC (.tmp rfl) rfl rfl)) ?_
        refine WL_cons hC.fn (.plain rfl (ox_cmp hC rfl (.tmp rfl) .cint (r := true) (by have := hhi k hkx; simp only [cmpI]; exact decide_eq_true (by omega)) rfl rfl)) ?_
        refine WL_nil ?_
        refine W_cond rfl (by decide) (fun _ => ?_) (fun hc => by cases hc)
        refine W_exit ?_
        refine W_region ?_
        refine WL_cons hC.fn (.plain rfl (oc_move hC (.tmp rfl) rfl rfl)) ?_
        refine WL_cons hC.fn (.plain rfl (oc_bin hC rfl (.tmp rfl) .cint (by first | exact i64_add (by omega) | rfl) rfl rfl)) ?_
        refine WL_cons hC.fn (.plain rfl (oc_assign hC (.tmp rfl) rfl rfl)) ?_
        refine WL_nil ?_
        exact ⟨(k + 1), ⟨by omega, by omega⟩, (weak (fun k => k) (.cons rfl (by first | rfl | exact congrArg (AV.i _) (by omega) | exact congrArg (AV.i _) (by simp; omega)) trivial (.cons rfl (by first | rfl | simp) (by show _ < _; decide) (.cons rfl (by first | rfl | simp) (by show _ < _; decide) (.cons rfl rfl trivial (.cons rfl rfl trivial (.cons rfl (by first | rfl | exact congrArg (AV.i _) (by omega) | exact congrArg (AV.i _) (by simp; omega)) trivial .nil)))))) (.cons rfl (Blk.ren_free (by simp) _) rfl (by first | exact inSL_I _ | simp) (.cons rfl (Blk.ren_free (by simp) _) rfl (by first | exact inSL_I _ | simp) .nil)) rfl rfl rfl), (by omega)⟩
      ·
        rw [← hkx] at hz hm
        refine W_region ?_
        refine WL_cons hC.fn (.plain rfl (oc_move hC (.tmp rfl) rfl rfl)) ?_
        refine WL_cons hC.fn (.plain rfl (ox_cmp hC rfl (.tmp rfl) .cint (r := false) (by rw [hkx]; simp only [cmpI]; exact decide_eq_false (by have := ix7_at (b := b) (by omega); omega)) rfl rfl)) ?_
        refine WL_nil ?_
        refine W_cond rfl (by decide) (fun hc => by cases hc) (fun _ => ?_)
        refine W_skip ?_
        refine W_seq ?_
        refine W_seq ?_
        rcases (show k = 0 ∨ (0 < k ∧ b.getD k 0 ≠ 0) by omega) with hz2 | hz2
        ·
          refine W_region ?_
          refine WL_cons hC.fn (.plain rfl (oc_move hC (.tmp rfl) rfl rfl)) ?_
          refine WL_cons hC.fn (.plain rfl (ox_cmp hC rfl (.tmp rfl) .cint (r := false) (by simp only [cmpI]; exact decide_eq_false (by omega)) rfl rfl)) ?_
          refine WL_cons hC.fn (.plain rfl (oc_move hC (.tmp rfl) rfl rfl)) ?_
          refine WL_cons hC.fn (.no (s1 := ⟨_, (45, .tu []) :: _, _⟩) rfl rfl (by decide) rfl (by decide) (fun t ht => by cases ht; exact ⟨blt_lt rfl, blt_lt rfl⟩) (fun t => setE_cons _ _ _ _) rfl rfl) ?_
          refine WL_cons hC.fn (.no (s1 := ⟨_, (46, .tu []) :: _, _⟩) rfl rfl (by decide) rfl (by decide) (fun t ht => by cases ht; exact ⟨blt_lt rfl, blt_lt rfl⟩) (fun t => setE_cons _ _ _ _) rfl rfl) ?_
          refine WL_cons hC.fn (.plain rfl (ox_pick hC (.tmp rfl) (.tmp rfl) .cbool (by first | exact pick_t | exact pick_f | rfl) rfl rfl)) ?_
          refine WL_nil ?_
          refine W_cond rfl (by decide) (fun hc => by cases hc) (fun _ => ?_)
          refine W_skip ?_
          refine W_seq ?_
          refine W_seq ?_
          refine W_region ?_
          refine WL_cons hC.fn (.plain rfl (oc_move hC (.tmp rfl) rfl rfl)) ?_
          refine WL_cons hC.fn (.plain rfl (oc_move hC (.tmp rfl) rfl rfl)) ?_
          refine WL_cons hC.fn (.plain rfl (ox_cmp hC rfl (.tmp rfl) (.tmp rfl) (r := false) (by simp only [cmpI]; exact decide_eq_false (by omega)) rfl rfl)) ?_
          refine WL_cons hC.fn (.plain rfl (oc_move hC (.tmp rfl) rfl rfl)) ?_
          refine WL_cons hC.fn (.yes rfl rfl (by decide) rfl (oc_move hC (.tmp rfl) rfl rfl)) ?_
          refine WL_cons hC.fn (.yes rfl rfl (by decide) rfl (ox_cmp hC rfl (.tmp rfl) .cint (r := false) (by simp only [cmpI]; exact decide_eq_false (by omega)) rfl rfl)) ?_
          refine WL_cons hC.fn (.plain rfl (ox_pick hC (.tmp rfl) .cbool (.tmp rfl) (by first | exact pick_t | exact pick_f | rfl) rfl rfl)) ?_
          refine WL_nil ?_
          refine W_cond rfl (by decide) (fun hc => by cases hc) (fun _ => ?_)
          refine W_skip ?_
          refine W_seq ?_
          refine W_region ?_
          refine WL_cons hC.fn (.plain rfl (oc_field hC (.tmp rfl) fld_45_0 (by decide) (by first | exact .p (Nat.zero_add _) | exact .p rfl | exact .rp (by decide)) rfl rfl)) ?_
          refine WL_cons hC.fn (.plain rfl (oc_load hC (.tmp rfl) (by first | exact .p rfl | exact .rp) shp_22 (by first | exact unit_one rfl | exact unit_I (by first | omega | (simp; omega)) | exact unit_c rfl (by decide) | exact unit_c rfl (by simp)) rfl rfl)) ?_
          refine WL_cons hC.fn (.plain rfl (oc_move hC (.tmp rfl) rfl rfl)) ?_
          refine WL_cons hC.fn (.plain rfl (oc_bin hC rfl (.tmp rfl) .cint (r := ((k + 1 : Nat) : Int)) (nadd (y := 1) (by omega)) rfl rfl)) ?_
          refine WL_cons hC.fn (.plain rfl (ox_cutS (u' := .vs (n - (k + 1)) (I .u8 (b.drop (k + 1)))) hC (.tmp rfl) (.yes (n := k + 1) (.tmp rfl) (by first | rfl | omega | (simp; omega))) .no idx_22 (by first | exact .row rfl (Nat.mul_one _) | exact .sl rfl | exact .vs (by first | omega | (simp; omega)) | exact .nils) (by first | omega | (simp; omega)) (by first | omega | (simp; omega)) (by rw [cut_vsI]; congr 2; exact List.take_of_length_le (by simp; omega)) rfl rfl)) ?_
          rw [hkx]
          refine WL_cons hC.fn (.plain rfl (ox_build (out' := [.vs (n - (ix7 b + 1)) (I .u8 (b.drop (ix7 b + 1))), .i .i64 0]) hC (.cons (.tmp rfl) (.cons .cint .nil)) zero_45 bld_45 rfl rfl rfl rfl)) ?_
          refine WL_cons hC.fn (.plain rfl (oc_move hC (.tmp rfl) rfl rfl)) ?_
          refine WL_cons hC.fn (.plain rfl (ox_store hC (.tmp rfl) (.tmp rfl) rfl shp_45 (by first | rfl | exact flat_agI) rfl (by first | exact Nat.le_refl _ | exact Nat.le_of_ble_eq_true rfl | decide | (simp <;> fail) | (simp; omega)) rfl (by first | exact .here | exact .there (.here) rfl | exact .there (.there (.here) rfl) rfl | exact .there (.there (.there (.here) rfl) rfl) rfl | exact .there (.there (.there (.there (.here) rfl) rfl) rfl) rfl | exact .there (.there (.there (.there (.there (.here) rfl) rfl) rfl) rfl) rfl | exact .there (.there (.there (.there (.there (.there (.here) rfl) rfl) rfl) rfl) rfl) rfl | exact .there (.there (.there (.there (.there (.there (.there (.here) rfl) rfl) rfl) rfl) rfl) rfl) rfl | exact .there (.there (.there (.there (.there (.there (.there (.there (.here) rfl) rfl) rfl) rfl) rfl) rfl) rfl) rfl | exact .there (.there (.there (.there (.there (.there (.there (.there (.there (.here) rfl) rfl) rfl) rfl) rfl) rfl) rfl) rfl) rfl) rfl)) ?_
          refine WL_cons hC.fn (.plain rfl (oc_assign hC (.tmp rfl) rfl rfl)) ?_
          refine WL_nil ?_
          refine W_ret ?_
          exact fin0 (.cons (.cell rfl (.p rfl) shp_45 (unit_agg rfl)) (.cons (.tmp rfl) .nil)) rfl (by simp)
        ·
          refine W_region ?_
          refine WL_cons hC.fn (.plain rfl (oc_move hC (.tmp rfl) rfl rfl)) ?_
          refine WL_cons hC.fn (.plain rfl (ox_cmp hC rfl (.tmp rfl) .cint (r := true) (by simp only [cmpI]; exact decide_eq_true (by omega)) rfl rfl)) ?_
          refine WL_cons hC.fn (.plain rfl (oc_move hC (.tmp rfl) rfl rfl)) ?_
          refine WL_cons hC.fn (.yes rfl rfl (by decide) rfl (oc_move hC (.tmp rfl) rfl rfl)) ?_
          refine WL_cons hC.fn (.yes rfl rfl (by decide) rfl (ox_cmp hC rfl (.tmp rfl) .cint (r := false) (by simp only [cmpI]; exact decide_eq_false hz2.2) rfl rfl)) ?_
          refine WL_cons hC.fn (.plain rfl (ox_pick hC (.tmp rfl) (.tmp rfl) .cbool (by first | exact pick_t | exact pick_f | rfl) rfl rfl)) ?_
          refine WL_nil ?_
          refine W_cond rfl (by decide) (fun hc => by cases hc) (fun _ => ?_)
          refine W_skip ?_
          refine W_seq ?_
          refine W_seq ?_
          refine W_region ?_
          refine WL_cons hC.fn (.plain rfl (oc_move hC (.tmp rfl) rfl rfl)) ?_
          refine WL_cons hC.fn (.plain rfl (oc_move hC (.tmp rfl) rfl rfl)) ?_
          refine WL_cons hC.fn (.plain rfl (ox_cmp hC rfl (.tmp rfl) (.tmp rfl) (r := false) (by simp only [cmpI]; exact decide_eq_false (by omega)) rfl rfl)) ?_
          refine WL_cons hC.fn (.plain rfl (oc_move hC (.tmp rfl) rfl rfl)) ?_
          refine WL_cons hC.fn (.yes rfl rfl (by decide) rfl (oc_move hC (.tmp rfl) rfl rfl)) ?_
          refine WL_cons hC.fn (.yes rfl rfl (by decide) rfl (ox_cmp hC rfl (.tmp rfl) .cint (r := false) (by simp only [cmpI]; exact decide_eq_false (by omega)) rfl rfl)) ?_
          refine WL_cons hC.fn (.plain rfl (ox_pick hC (.tmp rfl) .cbool (.tmp rfl) (by first | exact pick_t | exact pick_f | rfl) rfl rfl)) ?_
          refine WL_nil ?_
          refine W_cond rfl (by decide) (fun hc => by cases hc) (fun _ => ?_)
          refine W_skip ?_
          refine W_seq ?_
          refine W_region ?_
          refine WL_cons hC.fn (.plain rfl (oc_field hC (.tmp rfl) fld_45_0 (by decide) (by first | exact .p (Nat.zero_add _) | exact .p rfl | exact .rp (by decide)) rfl rfl)) ?_
          refine WL_cons hC.fn (.plain rfl (oc_load hC (.tmp rfl) (by first | exact .p rfl | exact .rp) shp_22 (by first | exact unit_one rfl | exact unit_I (by first | omega | (simp; omega)) | exact unit_c rfl (by decide) | exact unit_c rfl (by simp)) rfl rfl)) ?_
          refine WL_cons hC.fn (.plain rfl (oc_move hC (.tmp rfl) rfl rfl)) ?_
          refine WL_cons hC.fn (.plain rfl (oc_bin hC rfl (.tmp rfl) .cint (r := ((k + 1 : Nat) : Int)) (nadd (y := 1) (by omega)) rfl rfl)) ?_
          refine WL_cons hC.fn (.plain rfl (ox_cutS (u' := .vs (n - (k + 1)) (I .u8 (b.drop (k + 1)))) hC (.tmp rfl) (.yes (n := k + 1) (.tmp rfl) (by first | rfl | omega | (simp; omega))) .no idx_22 (by first | exact .row rfl (Nat.mul_one _) | exact .sl rfl | exact .vs (by first | omega | (simp; omega)) | exact .nils) (by first | omega | (simp; omega)) (by first | omega | (simp; omega)) (by rw [cut_vsI]; congr 2; exact List.take_of_length_le (by simp; omega)) rfl rfl)) ?_
          rw [hkx]
          refine WL_cons hC.fn (.plain rfl (ox_build (out' := [.vs (n - (ix7 b + 1)) (I .u8 (b.drop (ix7 b + 1))), .i .i64 0]) hC (.cons (.tmp rfl) (.cons .cint .nil)) zero_45 bld_45 rfl rfl rfl rfl)) ?_
          refine WL_cons hC.fn (.plain rfl (oc_move hC (.tmp rfl) rfl rfl)) ?_
          refine WL_cons hC.fn (.plain rfl (ox_store hC (.tmp rfl) (.tmp rfl) rfl shp_45 (by first | rfl | exact flat_agI) rfl (by first | exact Nat.le_refl _ | exact Nat.le_of_ble_eq_true rfl | decide | (simp <;> fail) | (simp; omega)) rfl (by first | exact .here | exact .there (.here) rfl | exact .there (.there (.here) rfl) rfl | exact .there (.there (.there (.here) rfl) rfl) rfl | exact .there (.there (.there (.there (.here) rfl) rfl) rfl) rfl | exact .there (.there (.there (.there (.there (.here) rfl) rfl) rfl) rfl) rfl | exact .there (.there (.there (.there (.there (.there (.here) rfl) rfl) rfl) rfl) rfl) rfl | exact .there (.there (.there (.there (.there (.there (.there (.here) rfl) rfl) rfl) rfl) rfl) rfl) rfl | exact .there (.there (.there (.there (.there (.there (.there (.there (.here) rfl) rfl) rfl) rfl) rfl) rfl) rfl) rfl | exact .there (.there (.there (.there (.there (.there (.there (.there (.there (.here) rfl) rfl) rfl) rfl) rfl) rfl) rfl) rfl) rfl) rfl)) ?_
          refine WL_cons hC.fn (.plain rfl (oc_assign hC (.tmp rfl) rfl rfl)) ?_
          refine WL_nil ?_
          refine W_ret ?_
          exact fin0 (.cons (.cell rfl (.p rfl) shp_45 (unit_agg rfl)) (.cons (.tmp rfl) .nil)) rfl (by simp)
  ·
    replace hc := lss_f hc
    exfalso
    omega
end Go.Proofs.Ytakjepiamjbnbaa
