/- Own work, printed by a program of this claim: walks through functions of the program. -/
import Derived.Test.YtibldhfgapjpfaaDoorW1
import Derived.Test.YtibldhfgapjpfaaDoorProg
import Derived.KernelRfl
set_option linter.unusedSimpArgs false
set_option linter.unusedVariables false
namespace Go.Proofs.YtibldhfgapjpfaaDoor
open Go.Sk Go.RowKit
attribute [local simp] AV.inSL AV.inS inSL_I Blk.inS Blk.cs AV.novs AV.novsL novsL_I AV.ren AV.cells AV.one lk tuAV
set_option maxRecDepth 20000 in
set_option maxHeartbeats 4000000 in
theorem rputlt_c (f nC : Nat) (n : Int) (hn : (n = nC ∧ nC ≤ 1099511627775) ∨ ((n < 0 ∨ 1099511627775 < n) ∧ nC = 0)) (h7 : nC < 128) : FnC Tryd.prog 21 [] [.i .i64 n] [] [(0, .row 5 1 (putN f nC).length (I .u8 (putN f nC)))] (.row 0) := by
  have hp := putN_lt (f := f) h7
  have hp1 : (putN f nC).length = 1 := by rw [hp]; rfl
  refine FnC.introR (N0 := 0) (T := 23) (E := [(0, .i .i64 n)]) Tryd.func21 rfl (by decide) mix rfl rfl rfl (by simp) rfl ⟨(by first | exact inSL_I _ | trivial | simp), trivial⟩ (by simp) (by
        intro S ha hr hw
        have s0 : S 0 := hw 0 (by first | (simp; done) | (show some _ ≠ none; simp)) (by first | rfl | simp)
        refine ⟨by first | exact inSL_I _ | simp [s0], fun k b hm => ?_⟩
        simp only [List.mem_cons, Prod.mk.injEq, List.not_mem_nil, or_false] at hm
        rcases hm with ⟨rfl, rfl⟩
        · exact ⟨s0, by first | exact inSL_I _ | simp [s0]⟩) (fun F n0 X w ρ hC hro => ?_)
  refine wsr ?_
  refine wp rfl hC (oc_assign hC .cnils rfl rfl) ?_
  refine WL_nil ?_
  refine W_seq ?_
  refine W_seq ?_
  rcases (show (n = nC ∧ nC ≤ 1099511627775) ∨ (n < 0 ∧ nC = 0) ∨ (0 ≤ n ∧ 1099511627775 < n ∧ nC = 0) by omega) with h | h | h
  ·
    refine W_region ?_
    refine wp rfl hC (oc_move hC (.tmp rfl) rfl rfl) ?_
    refine wp rfl hC (ox_cmp hC rfl (.tmp rfl) .cint (r := false) (by simp only [cmpI]; exact decide_eq_false (by omega)) rfl rfl) ?_
    refine wp rfl hC (oc_move hC (.tmp rfl) rfl rfl) ?_
    refine WL_cons hC.fn (.yes rfl rfl (by decide) rfl (oc_move hC (.tmp rfl) rfl rfl)) ?_
    refine WL_cons hC.fn (.yes rfl rfl (by decide) rfl (ox_cmp hC rfl (.tmp rfl) .cint (r := false) (by simp only [cmpI]; exact decide_eq_false (by omega)) rfl rfl)) ?_
    refine wp rfl hC (ox_pick hC (.tmp rfl) .cbool (.tmp rfl) (by first | exact pick_t | exact pick_f | rfl) rfl rfl) ?_
    refine WL_nil ?_
    refine W_cond rfl (by decide) (fun hc => by cases hc) (fun _ => ?_)
    refine W_skip ?_
    refine W_seq ?_
    refine wsr ?_
    refine wp rfl hC (oc_move hC (.tmp rfl) rfl rfl) ?_
    refine wp rfl hC (ox_cmp hC rfl (.tmp rfl) .cint (r := true) (by simp only [cmpI]; exact decide_eq_true (by omega)) rfl rfl) ?_
    refine WL_nil ?_
    refine W_cond rfl (by decide) (fun _ => ?_) (fun hc => by cases hc)
    refine wsr ?_
    refine wp rfl hC (oc_move hC (.tmp rfl) rfl rfl) ?_
    refine wp rfl hC (oc_conv hC (.tmp rfl) rfl Tryd.underlying5 (r := (nC : Int)) (by rw [u8_conv (by omega)]; omega) rfl rfl) ?_
    refine wp rfl hC (ox_litRI (k := .u8) (ws := [(nC : Int)]) hC (.cons (.tmp rfl) .nil) Tryd.underlying22 cells_5 zero_5 rfl (by decide) rfl rfl (by first | rfl | simp) rfl rfl rfl) ?_
    refine wp rfl hC (oc_assign hC (.tmp rfl) rfl rfl) ?_
    refine WL_nil ?_
    refine W_ret ?_
    exact fin1 (.cons (.tmp rfl) .nil) rfl (by rw [hp1, hp]; rfl) (inSL_I _)
  ·
    refine W_region ?_
    refine wp rfl hC (oc_move hC (.tmp rfl) rfl rfl) ?_
    refine wp rfl hC (ox_cmp hC rfl (.tmp rfl) .cint (r := true) (by simp only [cmpI]; exact decide_eq_true (by omega)) rfl rfl) ?_
    refine wp rfl hC (oc_move hC (.tmp rfl) rfl rfl) ?_
    refine WL_cons hC.fn (.no (s1 := ⟨_, (6, .tu []) :: _, _⟩) rfl rfl (by decide) rfl (by decide) (fun t ht => by cases ht; exact ⟨blt_lt rfl, blt_lt rfl⟩) (fun t => setE_cons _ _ _ _) rfl rfl) ?_
    refine WL_cons hC.fn (.no (s1 := ⟨_, (7, .tu []) :: _, _⟩) rfl rfl (by decide) rfl (by decide) (fun t ht => by cases ht; exact ⟨blt_lt rfl, blt_lt rfl⟩) (fun t => setE_cons _ _ _ _) rfl rfl) ?_
    refine wp rfl hC (ox_pick hC (.tmp rfl) .cbool (.tmp rfl) (by first | exact pick_t | exact pick_f | rfl) rfl rfl) ?_
    refine WL_nil ?_
    refine W_cond rfl (by decide) (fun _ => ?_) (fun hc => by cases hc)
    refine W_region ?_
    refine wp rfl hC (oc_assign hC .cint rfl rfl) ?_
    refine WL_nil ?_
    refine W_seq ?_
    refine wsr ?_
    refine wp rfl hC (oc_move hC (.tmp rfl) rfl rfl) ?_
    refine wp rfl hC (ox_cmp hC rfl (.tmp rfl) .cint (r := true) (by simp only [cmpI]; exact decide_eq_true (by omega)) rfl rfl) ?_
    refine WL_nil ?_
    refine W_cond rfl (by decide) (fun _ => ?_) (fun hc => by cases hc)
    refine wsr ?_
    refine wp rfl hC (oc_move hC (.tmp rfl) rfl rfl) ?_
    refine wp rfl hC (oc_conv hC (.tmp rfl) rfl Tryd.underlying5 (r := (nC : Int)) (by rw [u8_conv (by omega)]; omega) rfl rfl) ?_
    refine wp rfl hC (ox_litRI (k := .u8) (ws := [(nC : Int)]) hC (.cons (.tmp rfl) .nil) Tryd.underlying22 cells_5 zero_5 rfl (by decide) rfl rfl (by first | rfl | simp) rfl rfl rfl) ?_
    refine wp rfl hC (oc_assign hC (.tmp rfl) rfl rfl) ?_
    refine WL_nil ?_
    refine W_ret ?_
    exact fin1 (.cons (.tmp rfl) .nil) rfl (by rw [hp1, hp]; rfl) (inSL_I _)
  ·
    refine W_region ?_
    refine wp rfl hC (oc_move hC (.tmp rfl) rfl rfl) ?_
    refine wp rfl hC (ox_cmp hC rfl (.tmp rfl) .cint (r := false) (by simp only [cmpI]; exact decide_eq_false (by omega)) rfl rfl) ?_
    refine wp rfl hC (oc_move hC (.tmp rfl) rfl rfl) ?_
    refine WL_cons hC.fn (.yes rfl rfl (by decide) rfl (oc_move hC (.tmp rfl) rfl rfl)) ?_
    refine WL_cons hC.fn (.yes rfl rfl (by decide) rfl (ox_cmp hC rfl (.tmp rfl) .cint (r := true) (by simp only [cmpI]; exact decide_eq_true (by omega)) rfl rfl)) ?_
    refine wp rfl hC (ox_pick hC (.tmp rfl) .cbool (.tmp rfl) (by first | exact pick_t | exact pick_f | rfl) rfl rfl) ?_
    refine WL_nil ?_
    refine W_cond rfl (by decide) (fun _ => ?_) (fun hc => by cases hc)
    refine W_region ?_
    refine wp rfl hC (oc_assign hC .cint rfl rfl) ?_
    refine WL_nil ?_
    refine W_seq ?_
    refine wsr ?_
    refine wp rfl hC (oc_move hC (.tmp rfl) rfl rfl) ?_
    refine wp rfl hC (ox_cmp hC rfl (.tmp rfl) .cint (r := true) (by simp only [cmpI]; exact decide_eq_true (by omega)) rfl rfl) ?_
    refine WL_nil ?_
    refine W_cond rfl (by decide) (fun _ => ?_) (fun hc => by cases hc)
    refine wsr ?_
    refine wp rfl hC (oc_move hC (.tmp rfl) rfl rfl) ?_
    refine wp rfl hC (oc_conv hC (.tmp rfl) rfl Tryd.underlying5 (r := (nC : Int)) (by rw [u8_conv (by omega)]; omega) rfl rfl) ?_
    refine wp rfl hC (ox_litRI (k := .u8) (ws := [(nC : Int)]) hC (.cons (.tmp rfl) .nil) Tryd.underlying22 cells_5 zero_5 rfl (by decide) rfl rfl (by first | rfl | simp) rfl rfl rfl) ?_
    refine wp rfl hC (oc_assign hC (.tmp rfl) rfl rfl) ?_
    refine WL_nil ?_
    refine W_ret ?_
    exact fin1 (.cons (.tmp rfl) .nil) rfl (by rw [hp1, hp]; rfl) (inSL_I _)
set_option maxRecDepth 20000 in
set_option maxHeartbeats 4000000 in
theorem rputge_c (f nC : Nat) (n : Int) (hn : n = nC) (hm : nC ≤ 1099511627775) (h7 : ¬ nC < 128) (ih : FnC Tryd.prog 21 [] [.i .i64 ((nC / 128 : Nat) : Int)] [] [(0, .row 5 1 (putN f (nC / 128)).length (I .u8 (putN f (nC / 128))))] (.row 0)) (hf : f ≤ 6) : FnC Tryd.prog 21 [] [.i .i64 n] [] [(0, .row 5 1 (putN (f + 1) nC).length (I .u8 (putN (f + 1) nC)))] (.row 0) := by
  have hp := putN_ge (f := f) h7
  have hpl : (putN (f + 1) nC).length = 1 + (putN f (nC / 128)).length := by rw [hp, List.length_cons]; omega
  have hll := length_putN f (nC / 128)
  refine FnC.introR (N0 := 0) (T := 23) (E := [(0, .i .i64 n)]) Tryd.func21 rfl (by decide) mix rfl rfl rfl (by simp) rfl ⟨(by first | exact inSL_I _ | trivial | simp), trivial⟩ (by simp) (by
        intro S ha hr hw
        have s0 : S 0 := hw 0 (by first | (simp; done) | (show some _ ≠ none; simp)) (by first | rfl | simp)
        refine ⟨by first | exact inSL_I _ | simp [s0], fun k b hm => ?_⟩
        simp only [List.mem_cons, Prod.mk.injEq, List.not_mem_nil, or_false] at hm
        rcases hm with ⟨rfl, rfl⟩
        · exact ⟨s0, by first | exact inSL_I _ | simp [s0]⟩) (fun F n0 X w ρ hC hro => ?_)
  refine wsr ?_
  refine wp rfl hC (oc_assign hC .cnils rfl rfl) ?_
  refine WL_nil ?_
  refine W_seq ?_
  refine wsr ?_
  refine wp rfl hC (oc_move hC (.tmp rfl) rfl rfl) ?_
  refine wp rfl hC (ox_cmp hC rfl (.tmp rfl) .cint (r := false) (by simp only [cmpI]; exact decide_eq_false (by omega)) rfl rfl) ?_
  refine wp rfl hC (oc_move hC (.tmp rfl) rfl rfl) ?_
  refine WL_cons hC.fn (.yes rfl rfl (by decide) rfl (oc_move hC (.tmp rfl) rfl rfl)) ?_
  refine WL_cons hC.fn (.yes rfl rfl (by decide) rfl (ox_cmp hC rfl (.tmp rfl) .cint (r := false) (by simp only [cmpI]; exact decide_eq_false (by omega)) rfl rfl)) ?_
  refine wp rfl hC (ox_pick hC (.tmp rfl) .cbool (.tmp rfl) (by first | exact pick_t | exact pick_f | rfl) rfl rfl) ?_
  refine WL_nil ?_
  refine W_cond rfl (by decide) (fun hc => by cases hc) (fun _ => ?_)
  refine W_skip ?_
  refine W_seq ?_
  refine wsr ?_
  refine wp rfl hC (oc_move hC (.tmp rfl) rfl rfl) ?_
  refine wp rfl hC (ox_cmp hC rfl (.tmp rfl) .cint (r := false) (by simp only [cmpI]; exact decide_eq_false (by omega)) rfl rfl) ?_
  refine WL_nil ?_
  refine W_cond rfl (by decide) (fun hc => by cases hc) (fun _ => ?_)
  refine W_skip ?_
  refine wsr ?_
  refine wp rfl hC (oc_move hC (.tmp rfl) rfl rfl) ?_
  refine wp rfl hC (oc_div hC (.inr rfl) (.tmp rfl) .cint (by first | decide | omega) (r := ((nC % 128 : Nat) : Int)) (by rw [hn]; exact nrem (y := 128)) rfl rfl) ?_
  refine wp rfl hC (oc_bin hC rfl .cint (.tmp rfl) (r := ((128 + nC % 128 : Nat) : Int)) (nadd (x := 128) (by omega)) rfl rfl) ?_
  refine wp rfl hC (oc_conv hC (.tmp rfl) rfl Tryd.underlying5 (by first | exact u8_conv (by omega) | rfl) rfl rfl) ?_
  refine wp rfl hC (ox_litRI (k := .u8) (ws := [((128 + nC % 128 : Nat) : Int)]) hC (.cons (.tmp rfl) .nil) Tryd.underlying22 cells_5 zero_5 rfl (by decide) rfl rfl (by first | rfl | simp) rfl rfl rfl) ?_
  refine wp rfl hC (oc_move hC (.tmp rfl) rfl rfl) ?_
  refine wp rfl hC (oc_div hC (.inl rfl) (.tmp rfl) .cint (by first | decide | omega) (r := ((nC / 128 : Nat) : Int)) (by rw [hn]; exact nquo (y := 128) (by omega) (by decide)) rfl rfl) ?_
  refine wp rfl hC (oc_callN hC (.cons (.tmp rfl) .nil) (.cons1 (.free (by first | exact inSL_I _ | simp)) (.same (by first | exact inSL_I _ | simp))) (ih) glob_nil (by first | exact inSL_I _ | simp) rfl (by first | exact .inl rfl | exact .inr ⟨by simp, novsL_I _⟩ | exact .inr ⟨by simp, by simp⟩) rfl rfl) ?_
  refine wp rfl hC (ox_append (n' := (putN (f + 1) nC).length) (cs' := I .u8 (putN (f + 1) nC)) hC (.tmp rfl) (.tmp rfl) (by first | exact .row rfl rfl (by first | exact .here rfl | exact .s1 rfl rfl | exact .s2 rfl rfl rfl | exact .s3 rfl rfl rfl rfl | exact .s4 rfl rfl rfl rfl rfl | exact .s5 rfl rfl rfl rfl rfl rfl | exact .s6 rfl rfl rfl rfl rfl rfl rfl | exact .s7 rfl rfl rfl rfl rfl rfl rfl rfl | exact .s8 rfl rfl rfl rfl rfl rfl rfl rfl rfl) | exact .nils) (by first | exact .row rfl | exact .vs | exact .sl rfl | exact .nils) (by first | exact hro_nil | exact hro_one rfl) Tryd.underlying22 cells_5 bytes_5 zero_5 rfl (by decide) (by rw [length_I]; omega) (by first | rfl | exact one_takeI) hpl.symm (by rw [hp]; exact app_I (us := [((128 + nC % 128 : Nat) : Int)]) rfl) (by simp only [maxLen]; omega) (by omega) rfl rfl) ?_
  refine wp rfl hC (oc_assign hC (.tmp rfl) rfl rfl) ?_
  refine WL_nil ?_
  refine W_ret ?_
  exact fin1 (.cons (.tmp rfl) .nil) rfl rfl (inSL_I _)
theorem rputN_c : ∀ (f nC : Nat) (n : Int), n = nC → nC ≤ 1099511627775 → nC < 128 ^ (f + 1) → f ≤ 6 → FnC Tryd.prog 21 [] [.i .i64 n] [] [(0, .row 5 1 (putN f nC).length (I .u8 (putN f nC)))] (.row 0)
  | 0, nC, n, hn, hm, hl, _ => rputlt_c 0 nC n (.inl ⟨hn, hm⟩) (by omega)
  | f + 1, nC, n, hn, hm, hl, hf => by
    by_cases h7 : nC < 128
    · exact rputlt_c (f + 1) nC n (.inl ⟨hn, hm⟩) h7
    · refine rputge_c f nC n hn hm h7 (rputN_c f (nC / 128) _ rfl (by omega) ?_ (by omega)) (by omega)
      rw [Nat.pow_succ] at hl
      exact Nat.div_lt_of_lt_mul (by rw [Nat.mul_comm]; exact hl)
theorem rput_c (nC : Nat) (n : Int) (hn : (n = nC ∧ nC ≤ 1099511627775) ∨ ((n < 0 ∨ 1099511627775 < n) ∧ nC = 0)) : FnC Tryd.prog 21 [] [.i .i64 n] [] [(0, .row 5 1 (putV nC).length (I .u8 (putV nC)))] (.row 0) := by
  have e : putV nC = putN 6 nC := by unfold putV; rfl
  rw [e]
  rcases hn with ⟨h1, h2⟩ | ⟨h1, h2⟩
  · exact rputN_c 6 nC n h1 h2 (by omega) (by omega)
  · exact rputlt_c 6 nC n (.inr ⟨h1, h2⟩) (by omega)
set_option maxRecDepth 20000 in
set_option maxHeartbeats 4000000 in
theorem rputb_c (nx : Nat) (x : List Int) (hx : x.length = nx) (hlx : nx ≤ 1099511627) : FnC Tryd.prog 24 [] [.vs nx (I .u8 x)] [] [(0, .row 5 1 ((putV nx).length + nx) (I .u8 (putV nx ++ x)))] (.row 0) := by
  have hlp := length_putN 6 nx
  have hlv : (putV nx).length ≤ 7 := by unfold putV; exact hlp
  refine FnC.introR (N0 := 0) (T := 8) (E := [(0, .vs nx (I .u8 x))]) Tryd.func24 rfl (by decide) mix rfl rfl rfl (by simp) rfl ⟨(by first | exact inSL_I _ | trivial | simp), trivial⟩ (by simp) (by
        intro S ha hr hw
        have s0 : S 0 := hw 0 (by first | (simp; done) | (show some _ ≠ none; simp)) (by first | rfl | simp)
        refine ⟨by first | exact inSL_I _ | simp [s0], fun k b hm => ?_⟩
        simp only [List.mem_cons, Prod.mk.injEq, List.not_mem_nil, or_false] at hm
        rcases hm with ⟨rfl, rfl⟩
        · exact ⟨s0, by first | exact inSL_I _ | simp [s0]⟩) (fun F n0 X w ρ hC hro => ?_)
  refine wsr ?_
  refine wp rfl hC (oc_assign hC .cnils rfl rfl) ?_
  refine WL_nil ?_
  refine wsr ?_
  refine wp rfl hC (oc_move hC (.tmp rfl) rfl rfl) ?_
  refine wp rfl hC (ox_len hC (.tmp rfl) (by first | exact .row rfl | exact .vs | exact .sl rfl | exact .nils) Tryd.underlying22 rfl rfl rfl) ?_
  refine wp rfl hC (oc_callN hC (.cons (.tmp rfl) .nil) (.cons1 (.free (by first | exact inSL_I _ | simp)) (.same (by first | exact inSL_I _ | simp))) (rput_c nx nx (.inl ⟨rfl, by omega⟩)) glob_nil (by first | exact inSL_I _ | simp) rfl (by first | exact .inl rfl | exact .inr ⟨by simp, novsL_I _⟩ | exact .inr ⟨by simp, by simp⟩) rfl rfl) ?_
  refine wp rfl hC (oc_move hC (.tmp rfl) rfl rfl) ?_
  refine wp rfl hC (ox_append hC (.tmp rfl) (.tmp rfl) (by first | exact .row rfl rfl (by first | exact .here rfl | exact .s1 rfl rfl | exact .s2 rfl rfl rfl | exact .s3 rfl rfl rfl rfl | exact .s4 rfl rfl rfl rfl rfl | exact .s5 rfl rfl rfl rfl rfl rfl | exact .s6 rfl rfl rfl rfl rfl rfl rfl | exact .s7 rfl rfl rfl rfl rfl rfl rfl rfl | exact .s8 rfl rfl rfl rfl rfl rfl rfl rfl rfl) | exact .nils) (by first | exact .row rfl | exact .vs | exact .sl rfl | exact .nils) (by first | exact hro_nil | exact hro_one rfl) Tryd.underlying22 cells_5 bytes_5 zero_5 rfl (by decide) (by rw [length_I]; omega) (by first | rfl | exact one_takeI) (by first | rfl | (simp <;> fail) | (simp; omega)) (app_I hx) (by simp only [maxLen]; omega) (by omega) rfl rfl) ?_
  refine wp rfl hC (oc_assign hC (.tmp rfl) rfl rfl) ?_
  refine WL_nil ?_
  refine W_ret ?_
  exact fin1 (.cons (.tmp rfl) .nil) rfl rfl (inSL_I _)
set_option maxRecDepth 20000 in
set_option maxHeartbeats 4000000 in
theorem rfix_c (n wd : Nat) (width : Int) (hn64 : n < 18446744073709551616) (hw : (width = wd ∧ wd ≤ 8) ∨ ((width < 0 ∨ 8 < width) ∧ wd = 0)) : FnC Tryd.prog 22 [] [.i .u64 n, .i .i64 width] [] [(0, .row 5 1 wd (I .u8 (fixL n wd)))] (.row 0) := by
  refine FnC.introR (N0 := 0) (T := 25) (E := [(0, .i .u64 n), (1, .i .i64 width)]) Tryd.func22 rfl (by decide) mix rfl rfl rfl (by simp) rfl ⟨(by first | exact inSL_I _ | trivial | simp), (by first | exact inSL_I _ | trivial | simp), trivial⟩ (by simp) (by
        intro S ha hr hw
        have s0 : S 0 := hw 0 (by first | (simp; done) | (show some _ ≠ none; simp)) (by first | rfl | simp)
        refine ⟨by first | exact inSL_I _ | simp [s0], fun k b hm => ?_⟩
        simp only [List.mem_cons, Prod.mk.injEq, List.not_mem_nil, or_false] at hm
        rcases hm with ⟨rfl, rfl⟩
        · exact ⟨s0, by first | exact inSL_I _ | simp [s0]⟩) (fun F n0 X w ρ hC hro => ?_)
  refine wsr ?_
  refine wp rfl hC (oc_assign hC .cnils rfl rfl) ?_
  refine WL_nil ?_
  refine wsr ?_
  refine wp rfl hC (oc_assign hC .cnils rfl rfl) ?_
  refine WL_nil ?_
  refine W_seq ?_
  refine wsr ?_
  refine wp rfl hC (oc_assign hC .cint rfl rfl) ?_
  refine WL_nil ?_
  refine W_blk ?_
  refine W_weak (weak_nil (t := 5) (e := 5) (sz := 1) rfl) ?_
  refine W_loopW (fun (ζ : Nat) => ⟨1, [(0, .i .u64 ((n / 256 ^ ζ : Nat) : Int)), (1, .i .i64 width), (5, .row 0), (6, .i .i64 ζ)], [(0, .row 5 1 ζ (I .u8 (fixL n ζ)))]⟩) (fun ζ => ζ ≤ wd) (fun ζ => wd - ζ) (0) (Nat.zero_le _) (weak (fun k => k) (.cons rfl (congrArg (AV.i _) (by simp)) trivial (.cons rfl (by first | rfl | exact congrArg (AV.i _) (by omega) | exact congrArg (AV.i _) (by simp; omega)) trivial (.cons rfl (by first | rfl | simp) (by show _ < _; decide) (.cons rfl rfl trivial .nil)))) (.cons rfl (renRow (l' := []) rfl (by unfold fixL; rfl)) rfl (by first | exact inSL_I _ | simp) .nil) rfl rfl rfl) ?_
  intro i hR
  replace hR : i ≤ wd := hR
  first | show W _ _ _ ⟨1, [(0, .i .u64 ((n / 256 ^ i : Nat) : Int)), (1, .i .i64 width), (5, .row 0), (6, .i .i64 i)], [(0, .row 5 1 i (I .u8 (fixL n i)))]⟩ | skip
  refine W_seq ?_
  refine W_seq ?_
  rcases (show ((i : Int) < width ∧ width ≤ 8 ∧ i < wd) ∨ ((i : Int) < width ∧ 8 < width ∧ i = wd) ∨ (width ≤ i ∧ i = wd) by omega) with h | h | h
  ·
    refine W_region ?_
    refine wp rfl hC (oc_move hC (.tmp rfl) rfl rfl) ?_
    refine wp rfl hC (oc_move hC (.tmp rfl) rfl rfl) ?_
    refine wp rfl hC (ox_cmp hC rfl (.tmp rfl) (.tmp rfl) (r := true) (by simp only [cmpI]; exact decide_eq_true (by omega)) rfl rfl) ?_
    refine wp rfl hC (oc_move hC (.tmp rfl) rfl rfl) ?_
    refine WL_cons hC.fn (.yes rfl rfl (by decide) rfl (oc_move hC (.tmp rfl) rfl rfl)) ?_
    refine WL_cons hC.fn (.yes rfl rfl (by decide) rfl (ox_cmp hC rfl (.tmp rfl) .cint (r := true) (by simp only [cmpI]; exact decide_eq_true (by omega)) rfl rfl)) ?_
    refine wp rfl hC (ox_pick hC (.tmp rfl) (.tmp rfl) .cbool (by first | exact pick_t | exact pick_f | rfl) rfl rfl) ?_
    refine WL_nil ?_
    refine W_cond rfl (by decide) (fun _ => ?_) (fun hc => by cases hc)
    refine W_skip ?_
    refine W_seq ?_
    refine W_blk ?_
    refine wsr ?_
    refine wp rfl hC (oc_move hC (.tmp rfl) rfl rfl) ?_
    refine wp rfl hC (oc_move hC (.tmp rfl) rfl rfl) ?_
    refine wp rfl hC (oc_div hC (.inr rfl) (.tmp rfl) .cint (by first | decide | omega) (r := ((n / 256 ^ i % 256 : Nat) : Int)) nrem_u rfl rfl) ?_
    refine wp rfl hC (oc_conv hC (.tmp rfl) rfl Tryd.underlying5 (r := ((n / 256 ^ i % 256 : Nat) : Int)) (u8_conv (by omega)) rfl rfl) ?_
    refine wp rfl hC (ox_lit hC (.cons (.tmp rfl) .nil) Tryd.underlying22 cells_5 zero_5 rfl (by decide) rfl rfl (by first | rfl | simp) rfl rfl) ?_
    refine wp rfl hC (ox_append hC (.tmp rfl) (.tmp rfl) (by first | exact .row rfl rfl (by first | exact .here rfl | exact .s1 rfl rfl | exact .s2 rfl rfl rfl | exact .s3 rfl rfl rfl rfl | exact .s4 rfl rfl rfl rfl rfl | exact .s5 rfl rfl rfl rfl rfl rfl | exact .s6 rfl rfl rfl rfl rfl rfl rfl | exact .s7 rfl rfl rfl rfl rfl rfl rfl rfl | exact .s8 rfl rfl rfl rfl rfl rfl rfl rfl rfl) | exact .nils) (by first | exact .row rfl | exact .vs | exact .sl rfl | exact .nils) (by first | exact hro_nil | exact hro_one rfl) Tryd.underlying22 cells_5 bytes_5 zero_5 rfl (by decide) (by first | (simp <;> fail) | (simp; omega)) (by first | rfl | exact one_takeI) (by first | rfl | (simp <;> fail) | (simp; omega)) app_1 (by simp only [maxLen]; omega) (by omega) rfl rfl) ?_
    refine wp rfl hC (oc_assign hC (.tmp rfl) rfl rfl) ?_
    refine WL_nil ?_
    refine W_region ?_
    refine wp rfl hC (oc_move hC (.tmp rfl) rfl rfl) ?_
    refine wp rfl hC (oc_div hC (.inl rfl) (.tmp rfl) .cint (by first | decide | omega) (r := ((n / 256 ^ i : Nat) : Int) / 2 ^ 8) (fix_quo hn64) rfl rfl) ?_
    refine wp rfl hC (oc_assign hC (.tmp rfl) rfl rfl) ?_
    refine WL_nil ?_
    refine W_region ?_
    refine wp rfl hC (oc_move hC (.tmp rfl) rfl rfl) ?_
    refine wp rfl hC (oc_bin hC rfl (.tmp rfl) .cint (by first | exact i64_add (by omega) | rfl) rfl rfl) ?_
    refine wp rfl hC (oc_assign hC (.tmp rfl) rfl rfl) ?_
    refine WL_nil ?_
    exact ⟨(i + 1), (by omega), (weak (fun k => bif Nat.beq k 0 then 1 else k) (.cons rfl (congrArg (AV.i _) (fix_next.trans rfl)) trivial (.cons rfl (by first | rfl | exact congrArg (AV.i _) (by omega) | exact congrArg (AV.i _) (by simp; omega)) trivial (.cons rfl (by first | rfl | simp) (by show _ < _; decide) (.cons rfl (by first | rfl | exact congrArg (AV.i _) (by omega) | exact congrArg (AV.i _) (by simp; omega)) trivial .nil)))) (.cons rfl (renRow rfl fixL_succ_s) rfl (by first | exact inSL_I _ | simp) .nil) rfl rfl rfl), (by omega)⟩
  ·
    obtain ⟨_, _, rfl⟩ := h
    refine W_region ?_
    refine wp rfl hC (oc_move hC (.tmp rfl) rfl rfl) ?_
    refine wp rfl hC (oc_move hC (.tmp rfl) rfl rfl) ?_
    refine wp rfl hC (ox_cmp hC rfl (.tmp rfl) (.tmp rfl) (r := true) (by simp only [cmpI]; exact decide_eq_true (by omega)) rfl rfl) ?_
    refine wp rfl hC (oc_move hC (.tmp rfl) rfl rfl) ?_
    refine WL_cons hC.fn (.yes rfl rfl (by decide) rfl (oc_move hC (.tmp rfl) rfl rfl)) ?_
    refine WL_cons hC.fn (.yes rfl rfl (by decide) rfl (ox_cmp hC rfl (.tmp rfl) .cint (r := false) (by simp only [cmpI]; exact decide_eq_false (by omega)) rfl rfl)) ?_
    refine wp rfl hC (ox_pick hC (.tmp rfl) (.tmp rfl) .cbool (by first | exact pick_t | exact pick_f | rfl) rfl rfl) ?_
    refine WL_nil ?_
    refine W_cond rfl (by decide) (fun hc => by cases hc) (fun _ => ?_)
    refine W_exit ?_
    refine wsr ?_
    refine wp rfl hC (oc_move hC (.tmp rfl) rfl rfl) ?_
    refine wp rfl hC (oc_assign hC (.tmp rfl) rfl rfl) ?_
    refine WL_nil ?_
    refine W_ret ?_
    exact fin1 (.cons (.tmp rfl) .nil) rfl rfl (inSL_I _)
  ·
    obtain ⟨_, rfl⟩ := h
    refine W_region ?_
    refine wp rfl hC (oc_move hC (.tmp rfl) rfl rfl) ?_
    refine wp rfl hC (oc_move hC (.tmp rfl) rfl rfl) ?_
    refine wp rfl hC (ox_cmp hC rfl (.tmp rfl) (.tmp rfl) (r := false) (by simp only [cmpI]; exact decide_eq_false (by omega)) rfl rfl) ?_
    refine wp rfl hC (oc_move hC (.tmp rfl) rfl rfl) ?_
    refine WL_cons hC.fn (.no (s1 := ⟨_, (11, .tu []) :: _, _⟩) rfl rfl (by decide) rfl (by decide) (fun t ht => by cases ht; exact ⟨blt_lt rfl, blt_lt rfl⟩) (fun t => setE_cons _ _ _ _) rfl rfl) ?_
    refine WL_cons hC.fn (.no (s1 := ⟨_, (12, .tu []) :: _, _⟩) rfl rfl (by decide) rfl (by decide) (fun t ht => by cases ht; exact ⟨blt_lt rfl, blt_lt rfl⟩) (fun t => setE_cons _ _ _ _) rfl rfl) ?_
    refine wp rfl hC (ox_pick hC (.tmp rfl) (.tmp rfl) .cbool (by first | exact pick_t | exact pick_f | rfl) rfl rfl) ?_
    refine WL_nil ?_
    refine W_cond rfl (by decide) (fun hc => by cases hc) (fun _ => ?_)
    refine W_exit ?_
    refine wsr ?_
    refine wp rfl hC (oc_move hC (.tmp rfl) rfl rfl) ?_
    refine wp rfl hC (oc_assign hC (.tmp rfl) rfl rfl) ?_
    refine WL_nil ?_
    refine W_ret ?_
    exact fin1 (.cons (.tmp rfl) .nil) rfl rfl (inSL_I _)
end Go.Proofs.YtibldhfgapjpfaaDoor
