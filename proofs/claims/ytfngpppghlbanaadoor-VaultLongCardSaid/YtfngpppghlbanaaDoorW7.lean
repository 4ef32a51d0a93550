/- Own work, printed by a program of this claim: walks through functions of the program. -/
import Derived.Test.YtfngpppghlbanaaDoorW6
import Derived.Test.YtfngpppghlbanaaDoorProg
import Derived.KernelRfl
set_option linter.unusedSimpArgs false
set_option linter.unusedVariables false
namespace Go.Proofs.YtfngpppghlbanaaDoor
open Go.Sk Go.RowKit
attribute [local simp] AV.inSL AV.inS inSL_I Blk.inS Blk.cs AV.novs AV.novsL novsL_I AV.ren AV.cells AV.one lk tuAV
set_option maxRecDepth 20000 in
set_option maxHeartbeats 4000000 in
theorem rat_c (a : List Int) (k na : Nat) (hna : a.length = na) : FnC Tryd.prog 78 [] [.vs na (I .i64 a), .i .i64 k] [] [] (.i .i64 (a.getD k 0)) := by
  refine FnC.introR (N0 := 0) (T := 13) (E := [(0, .vs na (I .i64 a)), (1, .i .i64 k)]) Tryd.func78 rfl (by decide) mix rfl rfl rfl (by simp) rfl ⟨t_b, t_b, trivial⟩ (by simp) t_10 (fun F n0 X w ρ hC hro => ?_)
  refine wsr ?_
  refine wp rfl hC t_k ?_
  refine WL_nil ?_
  refine W_seq ?_
  refine W_seq ?_
  rcases Nat.lt_or_ge k na with h | h
  ·
    refine W_region ?_
    refine wp rfl hC t_1 ?_
    refine wp rfl hC t_1 ?_
    refine wp rfl hC t_3z ?_
    refine wp rfl hC t_3u ?_
    refine WL_nil ?_
    refine W_cond rfl (by decide) (fun _ => ?_) (fun hc => by cases hc)
    refine wsr ?_
    refine wp rfl hC t_1 ?_
    refine wp rfl hC t_1 ?_
    refine wp rfl hC (ox_indexS hC (j := k) (.tmp rfl) (.tmp rfl) idx_77 t_w t_d t_33 t_2 rfl rfl) ?_
    refine wp rfl hC t_6m ?_
    refine wp rfl hC t_4 ?_
    refine WL_nil ?_
    refine W_ret ?_
    exact fin0 (.cons (.tmp rfl) .nil) (by first | rfl | exact congrArg (AV.i .i64) h0.symm) trivial
  ·
    have h0 : a.getD k 0 = 0 := by rw [List.getD_eq_getElem?_getD, List.getElem?_eq_none (by omega)]; rfl
    refine W_region ?_
    refine wp rfl hC t_1 ?_
    refine wp rfl hC t_1 ?_
    refine wp rfl hC t_3z ?_
    refine wp rfl hC t_41 ?_
    refine WL_nil ?_
    refine W_cond rfl (by decide) (fun hc => by cases hc) (fun _ => ?_)
    refine W_skip ?_
    refine wsr ?_
    refine wp rfl hC t_k ?_
    refine WL_nil ?_
    refine W_ret ?_
    exact fin0 (.cons (.tmp rfl) .nil) (by first | rfl | exact congrArg (AV.i .i64) h0.symm) trivial
set_option maxRecDepth 20000 in
set_option maxHeartbeats 4000000 in
theorem radd_c (a b : List Int) (many na nb : Nat) (hna : a.length = na) (hnb : b.length = nb) (ba : B8 a) (bb : B8 b) (hm : many ≤ 1099511627776) : FnC Tryd.prog 55 [] [.vs na (I .i64 a), .vs nb (I .i64 b), .i .i64 many] [] [(0, .row 3 1 many (I .i64 (fixL (lb a + lb b) many)))] (.row 0) := by
  refine FnC.introR (N0 := 0) (T := 33) (E := [(0, .vs na (I .i64 a)), (1, .vs nb (I .i64 b)), (2, .i .i64 many)]) Tryd.func55 rfl (by decide) mix rfl rfl rfl (by simp) rfl ⟨t_b, t_b, t_b, trivial⟩ (by simp) (by
        intro S ha hr hw
        have s0 : S 0 := hw 0 t_17 t_5
        refine ⟨by first | exact inSL_I _ | simp [s0], fun k b hm => ?_⟩
        simp only [List.mem_cons, Prod.mk.injEq, List.not_mem_nil, or_false] at hm
        rcases hm with ⟨rfl, rfl⟩
        · exact ⟨s0, by first | exact inSL_I _ | simp [s0]⟩) (fun F n0 X w ρ hC hro => ?_)
  refine wsr ?_
  refine wp rfl hC t_v ?_
  refine WL_nil ?_
  refine wsr ?_
  refine wp rfl hC t_v ?_
  refine WL_nil ?_
  refine wsr ?_
  refine wp rfl hC t_k ?_
  refine WL_nil ?_
  refine W_seq ?_
  refine wsr ?_
  refine wp rfl hC t_k ?_
  refine WL_nil ?_
  refine W_blk ?_
  refine W_weak (weak_nil (t := 7) (e := 3) (sz := 1) rfl) ?_
  refine W_loopW (fun (ζ : Nat) => ⟨1, [(0, .vs na (I .i64 a)), (1, .vs nb (I .i64 b)), (2, .i .i64 many), (7, .row 0), (8, .i .i64 ((cy a b ζ : Nat) : Int)), (9, .i .i64 ζ)], [(0, .row 3 1 ζ (I .i64 (fixL (lb a + lb b) ζ)))]⟩) (fun ζ => ζ ≤ many) (fun ζ => many - ζ) (0) (Nat.zero_le _) (weak (fun k => k) (.cons rfl t_30 t_0 (.cons rfl t_30 t_0 (.cons rfl t_2y trivial (.cons rfl t_5 t_6 (.cons rfl (congrArg (AV.i _) (by rw [cy_zero]; rfl)) trivial (.cons rfl rfl trivial .nil)))))) (.cons rfl (renRow (l' := []) rfl (fixL_nil _)) rfl t_0 .nil) rfl rfl rfl) ?_
  intro k hR
  replace hR : k ≤ many := hR
  first | show W _ _ _ ⟨1, [(0, .vs na (I .i64 a)), (1, .vs nb (I .i64 b)), (2, .i .i64 many), (7, .row 0), (8, .i .i64 ((cy a b k : Nat) : Int)), (9, .i .i64 k)], [(0, .row 3 1 k (I .i64 (fixL (lb a + lb b) k)))]⟩ | skip
  have hx := ba.get k
  have hy := bb.get k
  have hc1 := cy_le ba bb k
  have hcd := cy_dig a b k
  have hcs := cy_succ a b k
  refine W_seq ?_
  refine wsr ?_
  refine wp rfl hC t_1 ?_
  refine wp rfl hC t_1 ?_
  refine wp rfl hC t_1e ?_
  refine WL_nil ?_
  refine W_cond rfl (by decide) (fun hc => ?_) (fun hc => ?_)
  ·
    replace hc := lss_t hc
    
    refine W_skip ?_
    refine W_seq ?_
    refine W_blk ?_
    refine wsr ?_
    refine wp rfl hC t_1 ?_
    refine wp rfl hC t_1 ?_
    refine wp rfl hC (oc_call hC (.cons (.tmp rfl) (.cons (.tmp rfl) .nil)) (.cons1 t_31 (.cons1 (.free t_0) (.same t_0))) (rat_c a k na hna) glob_nil t_0 t_8 rfl rfl) ?_
    refine wp rfl hC t_1 ?_
    refine wp rfl hC t_1 ?_
    refine wp rfl hC t_81 ?_
    refine wp rfl hC (oc_bin hC rfl (.tmp rfl) (.tmp rfl) (r := (a.getD k 0 + b.getD k 0)) (i64_add (by omega)) rfl rfl) ?_
    refine wp rfl hC t_1 ?_
    refine wp rfl hC (oc_bin hC rfl (.tmp rfl) (.tmp rfl) (r := (a.getD k 0 + b.getD k 0 + ((cy a b k : Nat) : Int))) (i64_add (by omega)) rfl rfl) ?_
    refine wp rfl hC t_4 ?_
    refine WL_nil ?_
    refine wsr ?_
    refine wp rfl hC t_1 ?_
    refine wp rfl hC t_1 ?_
    refine wp rfl hC (oc_div hC (.inr rfl) (.tmp rfl) .cint t_j (r := (((lb a + lb b) / 256 ^ k % 256 : Nat) : Int)) ((rem_nn (by omega)).trans (by omega)) rfl rfl) ?_
    refine wp rfl hC t_42 ?_
    refine wp rfl hC t_6v ?_
    refine wp rfl hC t_4 ?_
    refine WL_nil ?_
    refine W_region ?_
    refine wp rfl hC t_1 ?_
    refine wp rfl hC (oc_div hC (.inl rfl) (.tmp rfl) .cint t_j (r := ((cy a b (k + 1) : Nat) : Int)) ((i64_quo (by omega) (by omega) (by omega)).trans (by omega)) rfl rfl) ?_
    refine wp rfl hC t_4 ?_
    refine WL_nil ?_
    refine W_region ?_
    refine wp rfl hC t_1 ?_
    refine wp rfl hC t_36 ?_
    refine wp rfl hC t_4 ?_
    refine WL_nil ?_
    exact ⟨(k + 1), (by omega), (weak (fun k => bif Nat.beq k 0 then 1 else k) (.cons rfl t_30 t_0 (.cons rfl t_30 t_0 (.cons rfl t_2y trivial (.cons rfl t_5 t_6 (.cons rfl rfl trivial (.cons rfl t_2y trivial .nil)))))) (.cons rfl (renRow rfl (fixL_succ _ _).symm) rfl t_0 .nil) rfl rfl rfl), (by omega)⟩
  ·
    replace hc := lss_f hc
    obtain rfl : k = many := by omega
    refine W_exit ?_
    refine wsr ?_
    refine wp rfl hC t_1 ?_
    refine wp rfl hC t_4 ?_
    refine WL_nil ?_
    refine W_ret ?_
    exact fin1 (.cons (.tmp rfl) .nil) rfl rfl (inSL_I _)
set_option maxRecDepth 20000 in
set_option maxHeartbeats 4000000 in
theorem runder_c (a b : List Int) (na nb : Nat) (hna : a.length = na) (hnb : b.length = nb) (ba : B8 a) (bb : B8 b) (hla : na ≤ 1099511627776) (hlb : nb ≤ 1099511627776) : FnC Tryd.prog 75 [] [.vs na (I .i64 a), .vs nb (I .i64 b)] [] [] (.b (decide (lb a < lb b))) := by
  refine FnC.introR (N0 := 0) (T := 30) (E := [(0, .vs na (I .i64 a)), (1, .vs nb (I .i64 b))]) Tryd.func75 rfl (by decide) mix rfl rfl rfl (by simp) rfl ⟨t_b, t_b, trivial⟩ (by simp) t_10 (fun F n0 X w ρ hC hro => ?_)
  refine wsr ?_
  refine wp rfl hC t_1d ?_
  refine WL_nil ?_
  refine W_seq ?_
  refine wsr ?_
  refine wp rfl hC t_1 ?_
  refine wp rfl hC t_3z ?_
  refine wp rfl hC t_1 ?_
  refine wp rfl hC t_3z ?_
  refine wp rfl hC (ox_max hC (.tmp rfl) (.tmp rfl) (r := (((max na nb) : Nat) : Int)) (by omega) rfl rfl) ?_
  refine wp rfl hC (oc_bin hC rfl (.tmp rfl) .cint (r := ((((max na nb) : Nat) : Int) - 1)) (i64_sub (by omega)) rfl rfl) ?_
  refine wp rfl hC t_4 ?_
  refine WL_nil ?_
  refine W_blk ?_
  refine W_loopW (fun (ζ : Nat) => ⟨0, [(0, .vs na (I .i64 a)), (1, .vs nb (I .i64 b)), (5, .i .i64 ((ζ : Int) - 1))], []⟩) (fun ζ => ζ ≤ (max na nb) ∧ lb (a.drop ζ) = lb (b.drop ζ)) (fun ζ => ζ) ((max na nb)) ⟨Nat.le_refl _, by show lb (a.drop (max na nb)) = lb (b.drop (max na nb)); rw [List.drop_of_length_le (by omega), List.drop_of_length_le (by omega)]⟩ (weak (fun k => k) (.cons rfl t_30 t_0 (.cons rfl t_30 t_0 (.cons rfl rfl trivial .nil))) .nil rfl rfl rfl) ?_
  intro k hR
  replace hR : k ≤ (max na nb) ∧ lb (a.drop k) = lb (b.drop k) := hR
  first | show W _ _ _ ⟨0, [(0, .vs na (I .i64 a)), (1, .vs nb (I .i64 b)), (5, .i .i64 ((k : Int) - 1))], []⟩ | skip
  refine W_seq ?_
  refine wsr ?_
  refine wp rfl hC t_1 ?_
  refine wp rfl hC t_11 ?_
  refine WL_nil ?_
  refine W_cond rfl (by decide) (fun hc => ?_) (fun hc => ?_)
  ·
    replace hc := geq_t hc
    obtain ⟨j, rfl⟩ : ∃ j, k = j + 1 := ⟨k - 1, by omega⟩
    have hx := ba.get j
    have hy := bb.get j
    rw [show ((j + 1 : Nat) : Int) - 1 = (j : Int) by omega]
    refine W_skip ?_
    refine W_seq ?_
    refine W_blk ?_
    refine W_seq ?_
    rcases (show a.getD j 0 = b.getD j 0 ∨ a.getD j 0 < b.getD j 0 ∨ b.getD j 0 < a.getD j 0 by omega) with h | h | h
    ·
      refine W_region ?_
      refine wp rfl hC t_1 ?_
      refine wp rfl hC t_1 ?_
      refine wp rfl hC t_7i ?_
      refine wp rfl hC t_1 ?_
      refine wp rfl hC t_1 ?_
      refine wp rfl hC t_7j ?_
      refine wp rfl hC t_41 ?_
      refine WL_nil ?_
      refine W_cond rfl (by decide) (fun hc => by cases hc) (fun _ => ?_)
      refine W_skip ?_
      refine W_region ?_
      refine wp rfl hC t_1 ?_
      refine wp rfl hC t_40 ?_
      refine wp rfl hC t_4 ?_
      refine WL_nil ?_
      exact ⟨(j), ⟨by omega, lb_eq_of hR.2 (by omega)⟩, (weak (fun k => k) (.cons rfl t_30 t_0 (.cons rfl t_30 t_0 (.cons rfl (congrArg (AV.i _) (by omega)) trivial .nil))) .nil rfl rfl rfl), (by omega)⟩
    ·
      have hlt := lb_low ba hR.2 (by omega)
      refine W_region ?_
      refine wp rfl hC t_1 ?_
      refine wp rfl hC t_1 ?_
      refine wp rfl hC t_7i ?_
      refine wp rfl hC t_1 ?_
      refine wp rfl hC t_1 ?_
      refine wp rfl hC t_7j ?_
      refine wp rfl hC t_3u ?_
      refine WL_nil ?_
      refine W_cond rfl (by decide) (fun _ => ?_) (fun hc => by cases hc)
      refine wsr ?_
      refine wp rfl hC t_1 ?_
      refine wp rfl hC t_1 ?_
      refine wp rfl hC t_7i ?_
      refine wp rfl hC t_1 ?_
      refine wp rfl hC t_1 ?_
      refine wp rfl hC t_7j ?_
      refine wp rfl hC t_3u ?_
      refine wp rfl hC t_4 ?_
      refine WL_nil ?_
      refine W_ret ?_
      exact fin0 (.cons (.tmp rfl) .nil) (congrArg AV.b (decide_eq_true hlt).symm) trivial
    ·
      have hlt := lb_low bb hR.2.symm (by omega)
      refine W_region ?_
      refine wp rfl hC t_1 ?_
      refine wp rfl hC t_1 ?_
      refine wp rfl hC t_7i ?_
      refine wp rfl hC t_1 ?_
      refine wp rfl hC t_1 ?_
      refine wp rfl hC t_7j ?_
      refine wp rfl hC t_3u ?_
      refine WL_nil ?_
      refine W_cond rfl (by decide) (fun _ => ?_) (fun hc => by cases hc)
      refine wsr ?_
      refine wp rfl hC t_1 ?_
      refine wp rfl hC t_1 ?_
      refine wp rfl hC t_7i ?_
      refine wp rfl hC t_1 ?_
      refine wp rfl hC t_1 ?_
      refine wp rfl hC t_7j ?_
      refine wp rfl hC t_41 ?_
      refine wp rfl hC t_4 ?_
      refine WL_nil ?_
      refine W_ret ?_
      exact fin0 (.cons (.tmp rfl) .nil) (congrArg AV.b (decide_eq_false (by omega)).symm) trivial
  ·
    replace hc := geq_f hc
    obtain rfl : k = 0 := by omega
    have he : lb a = lb b := hR.2
    refine W_exit ?_
    refine wsr ?_
    refine wp rfl hC t_1d ?_
    refine WL_nil ?_
    refine W_ret ?_
    exact fin0 (.cons (.tmp rfl) .nil) (congrArg AV.b (decide_eq_false (by omega)).symm) trivial
set_option maxRecDepth 20000 in
set_option maxHeartbeats 4000000 in
theorem rprime_c  : FnC Tryd.prog 76 [] [] [] [(0, .row 3 1 17 (I .i64 (fixL 1361129467683753853853498429727072845819 17)))] (.row 0) := by
  refine FnC.introR (N0 := 0) (T := 14) (E := []) Tryd.func76 rfl (by decide) mix rfl rfl rfl (by simp) rfl trivial (by simp) (by
        intro S ha hr hw
        have s0 : S 0 := hw 0 t_17 t_5
        refine ⟨by first | exact inSL_I _ | simp [s0], fun k b hm => ?_⟩
        simp only [List.mem_cons, Prod.mk.injEq, List.not_mem_nil, or_false] at hm
        rcases hm with ⟨rfl, rfl⟩
        · exact ⟨s0, by first | exact inSL_I _ | simp [s0]⟩) (fun F n0 X w ρ hC hro => ?_)
  refine wsr ?_
  refine wp rfl hC t_v ?_
  refine WL_nil ?_
  refine wsr ?_
  refine wp rfl hC (ox_litRI (k := .i64) (ws := [251]) hC (.cons .cint .nil) Tryd.underlying77 cells_3 zero_3 rfl (by decide) rfl rfl t_5 rfl rfl rfl) ?_
  refine wp rfl hC t_4 ?_
  refine WL_nil ?_
  refine W_seq ?_
  refine wsr ?_
  refine wp rfl hC t_k ?_
  refine WL_nil ?_
  refine W_blk ?_
  refine W_loopW (fun (ζ : Nat) => ⟨1, [(1, .row 0), (2, .i .i64 ((ζ : Int) + 1))], [(0, .row 3 1 (1 + ζ) (I .i64 (251 :: List.replicate ζ 255)))]⟩) (fun ζ => ζ ≤ 15) (fun ζ => 15 - ζ) (0) (Nat.zero_le _) (weak (fun k => k) (.cons rfl t_5 t_6 (.cons rfl rfl trivial .nil)) (.cons rfl (renRow rfl rfl) rfl t_0 .nil) rfl rfl rfl) ?_
  intro k hR
  replace hR : k ≤ 15 := hR
  first | show W _ _ _ ⟨1, [(1, .row 0), (2, .i .i64 ((k : Int) + 1))], [(0, .row 3 1 (1 + k) (I .i64 (251 :: List.replicate k 255)))]⟩ | skip
  refine W_seq ?_
  refine wsr ?_
  refine wp rfl hC t_1 ?_
  refine wp rfl hC t_11 ?_
  refine WL_nil ?_
  refine W_cond rfl (by decide) (fun hc => ?_) (fun hc => ?_)
  ·
    replace hc := lss_t hc
    
    refine W_skip ?_
    refine W_seq ?_
    refine W_blk ?_
    refine W_region ?_
    refine wp rfl hC t_1 ?_
    refine wp rfl hC t_53 ?_
    refine wp rfl hC t_6v ?_
    refine wp rfl hC t_4 ?_
    refine WL_nil ?_
    refine W_region ?_
    refine wp rfl hC t_1 ?_
    refine wp rfl hC t_36 ?_
    refine wp rfl hC t_4 ?_
    refine WL_nil ?_
    exact ⟨(k + 1), (by omega), (weak (fun k => bif Nat.beq k 0 then 1 else k) (.cons rfl t_5 t_6 (.cons rfl (congrArg (AV.i _) (by omega)) trivial .nil)) (.cons rfl (renRow (by omega) (by rw [List.replicate_succ']; rfl)) rfl t_0 .nil) rfl rfl rfl), (by omega)⟩
  ·
    replace hc := lss_f hc
    obtain rfl : k = 15 := by omega
    refine W_exit ?_
    refine wsr ?_
    refine wp rfl hC t_1 ?_
    refine wp rfl hC t_53 ?_
    refine wp rfl hC (ox_append (n' := 17) (cs' := I .i64 (fixL 1361129467683753853853498429727072845819 17)) hC (.tmp rfl) (.tmp rfl) t_35 t_a t_r Tryd.underlying77 cells_3 bytes_3 zero_3 rfl (by decide) t_15 t_t rfl (app_1.trans (congrArg (I .i64) fix_prime.symm)) t_n (by omega) rfl rfl) ?_
    refine wp rfl hC t_4 ?_
    refine WL_nil ?_
    refine W_ret ?_
    exact fin1 (.cons (.tmp rfl) .nil) rfl rfl (inSL_I _)
set_option maxRecDepth 20000 in
set_option maxHeartbeats 4000000 in
theorem rless_c (a b : List Int) (na nb : Nat) (hna : a.length = na) (hnb : b.length = nb) (ba : B8 a) (bb : B8 b) (hl : nb ≤ na) (hle : lb b ≤ lb a) (hm : na ≤ 1099511627776) : FnC Tryd.prog 77 [] [.vs na (I .i64 a), .vs nb (I .i64 b)] [] [(0, .row 3 1 na (I .i64 (fixL (lb a - lb b) na)))] (.row 0) := by
  refine FnC.introR (N0 := 0) (T := 34) (E := [(0, .vs na (I .i64 a)), (1, .vs nb (I .i64 b))]) Tryd.func77 rfl (by decide) mix rfl rfl rfl (by simp) rfl ⟨t_b, t_b, trivial⟩ (by simp) (by
        intro S ha hr hw
        have s0 : S 0 := hw 0 t_17 t_5
        refine ⟨by first | exact inSL_I _ | simp [s0], fun k b hm => ?_⟩
        simp only [List.mem_cons, Prod.mk.injEq, List.not_mem_nil, or_false] at hm
        rcases hm with ⟨rfl, rfl⟩
        · exact ⟨s0, by first | exact inSL_I _ | simp [s0]⟩) (fun F n0 X w ρ hC hro => ?_)
  refine wsr ?_
  refine wp rfl hC t_v ?_
  refine WL_nil ?_
  refine wsr ?_
  refine wp rfl hC t_v ?_
  refine WL_nil ?_
  refine wsr ?_
  refine wp rfl hC t_k ?_
  refine WL_nil ?_
  refine W_seq ?_
  refine wsr ?_
  refine wp rfl hC t_k ?_
  refine WL_nil ?_
  refine W_blk ?_
  refine W_weak (weak_nil (t := 5) (e := 3) (sz := 1) rfl) ?_
  refine W_loopW (fun (ζ : Nat × List Int × Nat) => ⟨1, [(0, .vs na (I .i64 a)), (1, .vs nb (I .i64 b)), (5, .row 0), (6, .i .i64 ζ.2.2), (7, .i .i64 ζ.1)], [(0, .row 3 1 ζ.1 (I .i64 ζ.2.1))]⟩) (fun ζ => ζ.1 ≤ na ∧ LesR a b ζ.1 ζ.2.1 ζ.2.2) (fun ζ => na - ζ.1) (0, [], 0) ⟨Nat.zero_le _, LesR.zero a b⟩ (weak (fun k => k) (.cons rfl t_30 t_0 (.cons rfl t_30 t_0 (.cons rfl t_5 t_6 (.cons rfl rfl trivial (.cons rfl rfl trivial .nil))))) (.cons rfl (renRow (l' := []) rfl rfl) rfl t_0 .nil) rfl rfl rfl) ?_
  rintro ⟨k, o, bw⟩ hR
  replace hR : k ≤ na ∧ LesR a b k o bw := hR
  first | show W _ _ _ ⟨1, [(0, .vs na (I .i64 a)), (1, .vs nb (I .i64 b)), (5, .row 0), (6, .i .i64 bw), (7, .i .i64 k)], [(0, .row 3 1 k (I .i64 o))]⟩ | skip
  have hx := ba.get k
  have hy := bb.get k
  have hb1 := hR.2.le
  have hol := hR.2.len
  refine W_seq ?_
  refine wsr ?_
  refine wp rfl hC t_1 ?_
  refine wp rfl hC t_1 ?_
  refine wp rfl hC t_3z ?_
  refine wp rfl hC t_1e ?_
  refine WL_nil ?_
  refine W_cond rfl (by decide) (fun hc => ?_) (fun hc => ?_)
  ·
    replace hc := lss_t hc
    
    refine W_skip ?_
    refine W_seq ?_
    refine W_blk ?_
    refine W_seq ?_
    refine W_drawD hC ?_
    refine WD_cons (.plain rfl t_1) ?_
    refine WD_cons (.plain rfl t_1) ?_
    refine WD_cons (.plain rfl (ox_indexS hC (j := k) (.tmp rfl) (.tmp rfl) idx_77 t_w t_d t_33 t_2 rfl rfl)) ?_
    refine WD_cons (.plain rfl t_6m) ?_
    refine WD_cons (.plain rfl t_1) ?_
    refine WD_cons (.plain rfl t_1) ?_
    refine WD_cons (.plain rfl t_81) ?_
    refine WD_cons (.plain rfl (oc_bin hC rfl (.tmp rfl) (.tmp rfl) (r := (a.getD k 0 - b.getD k 0)) (i64_sub (by omega)) rfl rfl)) ?_
    refine WD_cons (.plain rfl t_1) ?_
    refine WD_cons (.plain rfl (oc_bin hC rfl (.tmp rfl) (.tmp rfl) (r := (a.getD k 0 - b.getD k 0 - (bw : Int))) (i64_sub (by omega)) rfl rfl)) ?_
    refine WD_cons (.plain rfl t_4) ?_
    refine WD_nil t_x ?_
    refine wsr ?_
    refine wp rfl hC t_k ?_
    refine WL_nil ?_
    refine W_seq ?_
    refine W_seq ?_
    rcases (show a.getD k 0 - b.getD k 0 - (bw : Int) < 0 ∨ 0 ≤ a.getD k 0 - b.getD k 0 - (bw : Int) by omega) with h | h
    ·
      obtain ⟨n, hn⟩ := Int.eq_ofNat_of_zero_le (show 0 ≤ a.getD k 0 - b.getD k 0 - (bw : Int) + 256 by omega)
      refine W_region ?_
      refine wp rfl hC t_1 ?_
      refine wp rfl hC t_3b ?_
      refine WL_nil ?_
      refine W_cond rfl (by decide) (fun _ => ?_) (fun hc => by cases hc)
      refine wsr ?_
      refine wp rfl hC t_1 ?_
      refine wp rfl hC (oc_bin hC rfl (.tmp rfl) .cint (r := (n : Int)) ((i64_add (by omega)).trans hn) rfl rfl) ?_
      refine wp rfl hC t_4 ?_
      refine WL_nil ?_
      refine W_region ?_
      refine wp rfl hC t_k ?_
      refine WL_nil ?_
      refine W_region ?_
      refine wp rfl hC t_1 ?_
      refine wp rfl hC t_1 ?_
      refine wp rfl hC t_42 ?_
      refine wp rfl hC t_6v ?_
      refine wp rfl hC t_4 ?_
      refine WL_nil ?_
      refine W_region ?_
      refine wp rfl hC t_1 ?_
      refine wp rfl hC t_36 ?_
      refine wp rfl hC t_4 ?_
      refine WL_nil ?_
      exact ⟨(k + 1, (o ++ [(n : Int)]), 1), ⟨by show k + 1 ≤ na; omega, hR.2.succ (n := n) (bw1 := 1) (by omega) (by decide) (by omega)⟩, (weak (fun k => bif Nat.beq k 0 then 1 else k) (.cons rfl t_30 t_0 (.cons rfl t_30 t_0 (.cons rfl t_5 t_6 (.cons rfl rfl trivial (.cons rfl t_2y trivial .nil))))) (.cons rfl (renRow rfl rfl) rfl t_0 .nil) rfl rfl rfl), (by show na - (k + 1) < na - k; omega)⟩
    ·
      obtain ⟨n, hn⟩ := Int.eq_ofNat_of_zero_le h
      rw [hn]
      refine W_region ?_
      refine wp rfl hC t_1 ?_
      refine wp rfl hC t_37 ?_
      refine WL_nil ?_
      refine W_cond rfl (by decide) (fun hc => by cases hc) (fun _ => ?_)
      refine W_skip ?_
      refine W_region ?_
      refine wp rfl hC t_1 ?_
      refine wp rfl hC t_1 ?_
      refine wp rfl hC t_42 ?_
      refine wp rfl hC t_6v ?_
      refine wp rfl hC t_4 ?_
      refine WL_nil ?_
      refine W_region ?_
      refine wp rfl hC t_1 ?_
      refine wp rfl hC t_36 ?_
      refine wp rfl hC t_4 ?_
      refine WL_nil ?_
      exact ⟨(k + 1, (o ++ [(n : Int)]), 0), ⟨by show k + 1 ≤ na; omega, hR.2.succ (n := n) (bw1 := 0) (by omega) (by decide) (by omega)⟩, (weak (fun k => bif Nat.beq k 0 then 1 else k) (.cons rfl t_30 t_0 (.cons rfl t_30 t_0 (.cons rfl t_5 t_6 (.cons rfl rfl trivial (.cons rfl t_2y trivial .nil))))) (.cons rfl (renRow rfl rfl) rfl t_0 .nil) rfl rfl rfl), (by show na - (k + 1) < na - k; omega)⟩
  ·
    replace hc := lss_f hc
    obtain rfl : k = na := by omega
    have hE := (show LesR a b a.length o bw by rw [hna]; exact hR.2).end (by omega) hle
    rw [hna] at hE
    subst hE
    refine W_exit ?_
    refine wsr ?_
    refine wp rfl hC t_1 ?_
    refine wp rfl hC t_4 ?_
    refine WL_nil ?_
    refine W_ret ?_
    exact fin1 (.cons (.tmp rfl) .nil) rfl rfl (inSL_I _)
set_option maxRecDepth 20000 in
set_option maxHeartbeats 4000000 in
theorem rmod_c (x : Nat) (hx : x < 22300745198530623141535718272648361505980416) : FnC Tryd.prog 54 [] [.row 0] [(0, .row 3 1 18 (I .i64 (fixL x 18)))] [(1, .row 3 1 18 (I .i64 (fixL (x % 1361129467683753853853498429727072845819) 18)))] (.row 1) := by
  refine FnC.introR (N0 := 1) (T := 11) (E := [(0, .row 0)]) Tryd.func54 rfl (by decide) mix rfl rfl rfl (by simp) rfl ⟨t_b, trivial⟩ t_2x (by
        intro S ha hr hw
        have s1 : S 1 := hw 1 t_17 t_5
        refine ⟨by first | exact inSL_I _ | simp [s1], fun k b hm => ?_⟩
        simp only [List.mem_cons, Prod.mk.injEq, List.not_mem_nil, or_false] at hm
        rcases hm with ⟨rfl, rfl⟩
        · exact ⟨s1, by first | exact inSL_I _ | simp [s1]⟩) (fun F n0 X w ρ hC hro => ?_)
  refine wsr ?_
  refine wp rfl hC t_v ?_
  refine WL_nil ?_
  refine W_seq ?_
  refine W_blk ?_
  refine W_loopW (fun (ζ : Nat) => ⟨2, [(0, .row 1)], [(1, .row 3 1 18 (I .i64 (fixL ζ 18)))]⟩) (fun ζ => ζ % 1361129467683753853853498429727072845819 = x % 1361129467683753853853498429727072845819 ∧ ζ < 22300745198530623141535718272648361505980416) (fun ζ => ζ) (x) ⟨rfl, hx⟩ (weak (fun k => bif Nat.beq k 1 then 0 else k) (.cons rfl t_5 t_6 .nil) (.cons rfl (renRow rfl rfl) rfl t_0 .nil) rfl rfl rfl) ?_
  intro z hR
  replace hR : z % 1361129467683753853853498429727072845819 = x % 1361129467683753853853498429727072845819 ∧ z < 22300745198530623141535718272648361505980416 := hR
  first | show W _ _ _ ⟨2, [(0, .row 1)], [(1, .row 3 1 18 (I .i64 (fixL z 18)))]⟩ | skip
  have hlz : lb (fixL z 18) = z := (lb_fixL 18 z).trans (Nat.mod_eq_of_lt (Nat.lt_of_lt_of_le hR.2 (by decide)))
  have hlp : lb (fixL 1361129467683753853853498429727072845819 17) = 1361129467683753853853498429727072845819 := (lb_fixL 17 _).trans (by decide)
  have hlf := length_fixL z 18
  have hlq := length_fixL 1361129467683753853853498429727072845819 17
  refine W_seq ?_
  refine W_seq ?_
  rcases Nat.lt_or_ge z 1361129467683753853853498429727072845819 with h | h
  ·
    have hfz : x % 1361129467683753853853498429727072845819 = z := by rw [← hR.1]; exact Nat.mod_eq_of_lt h
    refine W_region ?_
    refine wp rfl hC t_1 ?_
    refine wp rfl hC t_5j ?_
    refine wp rfl hC t_89 ?_
    rw [hlz, hlp, decide_eq_true h]
    refine wp rfl hC t_1m ?_
    refine WL_nil ?_
    refine W_cond rfl (by decide) (fun hc => by cases hc) (fun _ => ?_)
    refine W_exit ?_
    refine wsr ?_
    refine wp rfl hC t_1 ?_
    refine wp rfl hC t_4 ?_
    refine WL_nil ?_
    refine W_ret ?_
    rw [hfz]
    exact finK (fun k => k) (.cons (.tmp rfl) .nil) rfl (wr_cons rfl ren_rowI wr_nil) rfl rfl
  ·
    refine W_region ?_
    refine wp rfl hC t_1 ?_
    refine wp rfl hC t_5j ?_
    refine wp rfl hC t_89 ?_
    rw [hlz, hlp, decide_eq_false (by omega)]
    refine wp rfl hC t_1m ?_
    refine WL_nil ?_
    refine W_cond rfl (by decide) (fun _ => ?_) (fun hc => by cases hc)
    refine W_skip ?_
    refine W_blk ?_
    refine W_region ?_
    refine wp rfl hC t_1 ?_
    refine wp rfl hC t_5j ?_
    refine wp rfl hC (oc_callN hC (.cons (.tmp rfl) (.cons (.tmp rfl) .nil)) (.cons1 t_31 (.cons1 t_31 (.same t_0))) (rless_c (fixL z 18) (fixL 1361129467683753853853498429727072845819 17) 18 17 hlf hlq (B8_fixL _ _) (B8_fixL _ _) (by decide) (by rw [hlz, hlp]; exact h) (by decide)) glob_nil t_0 rfl t_q rfl rfl) ?_
    rw [hlz, hlp]
    refine wp rfl hC t_4 ?_
    refine WL_nil ?_
    exact ⟨((z - 1361129467683753853853498429727072845819)), ⟨by omega, by omega⟩, (weak (fun k => bif Nat.beq k 1 then 4 else k) (.cons rfl t_5 t_6 .nil) (.cons rfl (renRow rfl rfl) rfl t_0 .nil) rfl rfl rfl), (by omega)⟩
set_option maxRecDepth 20000 in
set_option maxHeartbeats 4000000 in
theorem rclamp_c (r : List Int) (hl : r.length = 16) (hb : B8 r) : FnC Tryd.prog 52 [] [.vs 16 (I .u8 r)] [] [(0, .row 5 1 16 (I .u8 (clampL r)))] (.row 0) := by
  refine FnC.introR (N0 := 0) (T := 34) (E := [(0, .vs 16 (I .u8 r))]) Tryd.func52 rfl (by decide) mix rfl rfl rfl (by simp) rfl ⟨t_b, trivial⟩ (by simp) (by
        intro S ha hr hw
        have s0 : S 0 := hw 0 t_17 t_5
        refine ⟨by first | exact inSL_I _ | simp [s0], fun k b hm => ?_⟩
        simp only [List.mem_cons, Prod.mk.injEq, List.not_mem_nil, or_false] at hm
        rcases hm with ⟨rfl, rfl⟩
        · exact ⟨s0, by first | exact inSL_I _ | simp [s0]⟩) (fun F n0 X w ρ hC hro => ?_)
  refine wsr ?_
  refine wp rfl hC t_v ?_
  refine WL_nil ?_
  refine wsr ?_
  refine wp rfl hC t_v ?_
  refine WL_nil ?_
  refine W_seq ?_
  refine wsr ?_
  refine wp rfl hC t_k ?_
  refine WL_nil ?_
  refine W_blk ?_
  refine W_weak (weak_nil (t := 3) (e := 5) (sz := 1) rfl) ?_
  refine W_loopW (fun (ζ : Nat) => ⟨1, [(0, .vs 16 (I .u8 r)), (3, .row 0), (4, .i .i64 ζ)], [(0, .row 5 1 ζ (I .u8 ((clampL r).take ζ)))]⟩) (fun ζ => ζ ≤ 16) (fun ζ => 16 - ζ) (0) (Nat.zero_le _) (weak (fun k => k) (.cons rfl t_30 t_0 (.cons rfl t_5 t_6 (.cons rfl rfl trivial .nil))) (.cons rfl (renRow (l' := []) rfl rfl) rfl t_0 .nil) rfl rfl rfl) ?_
  intro k hR
  replace hR : k ≤ 16 := hR
  first | show W _ _ _ ⟨1, [(0, .vs 16 (I .u8 r)), (3, .row 0), (4, .i .i64 k)], [(0, .row 5 1 k (I .u8 ((clampL r).take k)))]⟩ | skip
  refine W_seq ?_
  refine wsr ?_
  refine wp rfl hC t_1 ?_
  refine wp rfl hC t_11 ?_
  refine WL_nil ?_
  refine W_cond rfl (by decide) (fun hc => ?_) (fun hc => ?_)
  ·
    replace hc := lss_t hc
    have hx := hb.get k
    refine W_skip ?_
    refine W_seq ?_
    refine W_blk ?_
    refine wsr ?_
    refine wp rfl hC t_1 ?_
    refine wp rfl hC t_1 ?_
    refine wp rfl hC (ox_indexS hC (j := k) (.tmp rfl) (.tmp rfl) idx_22 t_w t_d t_33 t_2 rfl rfl) ?_
    refine wp rfl hC t_6l ?_
    refine wp rfl hC t_4 ?_
    refine WL_nil ?_
    refine W_seq ?_
    refine W_seq ?_
    rcases (show k % 4 = 3 ∨ (k % 4 ≠ 3 ∧ k % 4 = 0 ∧ 0 < k) ∨ (k % 4 ≠ 3 ∧ ¬ (k % 4 = 0 ∧ 0 < k) ∧ k % 4 ≠ 0) ∨ (k % 4 ≠ 3 ∧ k = 0) by omega) with h | h | h | h
    ·
      have hCk : clampC k (r.getD k 0) = r.getD k 0 % 16 := by unfold clampC; rw [if_pos h]
      refine W_region ?_
      refine wp rfl hC t_1 ?_
      refine wp rfl hC t_4l ?_
      refine wp rfl hC t_3b ?_
      refine WL_nil ?_
      refine W_cond rfl (by decide) (fun _ => ?_) (fun hc => by cases hc)
      refine W_region ?_
      refine wp rfl hC t_1 ?_
      refine wp rfl hC (oc_div hC (.inr rfl) (.tmp rfl) .cint t_j (r := (r.getD k 0 % 16)) (rem_nn (by omega)) rfl rfl) ?_
      refine wp rfl hC t_4 ?_
      refine WL_nil ?_
      refine W_seq ?_
      refine wsr ?_
      refine wp rfl hC t_1 ?_
      refine wp rfl hC t_4l ?_
      refine wp rfl hC t_37 ?_
      refine wp rfl hC t_1 ?_
      refine WL_cons hC.fn (.no (s1 := ⟨_, (23, .tu []) :: _, _⟩) rfl rfl (by decide) rfl (by decide) (dst_ok rfl rfl) (fun t => setE_cons _ _ _ _) rfl rfl) ?_
      refine WL_cons hC.fn (.no (s1 := ⟨_, (24, .tu []) :: _, _⟩) rfl rfl (by decide) rfl (by decide) (dst_ok rfl rfl) (fun t => setE_cons _ _ _ _) rfl rfl) ?_
      refine wp rfl hC t_2z ?_
      refine WL_nil ?_
      refine W_cond rfl (by decide) (fun hc => by cases hc) (fun _ => ?_)
      refine W_skip ?_
      refine W_region ?_
      refine wp rfl hC t_1 ?_
      refine wp rfl hC t_1 ?_
      refine wp rfl hC t_3v ?_
      refine wp rfl hC t_6o ?_
      refine wp rfl hC t_4 ?_
      refine WL_nil ?_
      refine W_region ?_
      refine wp rfl hC t_1 ?_
      refine wp rfl hC t_36 ?_
      refine wp rfl hC t_4 ?_
      refine WL_nil ?_
      exact ⟨(k + 1), (by omega), (weak (fun k => bif Nat.beq k 0 then 1 else k) (.cons rfl t_30 t_0 (.cons rfl t_5 t_6 (.cons rfl t_2y trivial .nil))) (.cons rfl (renRow rfl t_2j) rfl t_0 .nil) rfl rfl rfl), (by omega)⟩
    ·
      have hCk : clampC k (r.getD k 0) = r.getD k 0 / 4 * 4 := by unfold clampC; rw [if_neg h.1, if_pos h.2]
      refine W_region ?_
      refine wp rfl hC t_1 ?_
      refine wp rfl hC t_4l ?_
      refine wp rfl hC t_37 ?_
      refine WL_nil ?_
      refine W_cond rfl (by decide) (fun hc => by cases hc) (fun _ => ?_)
      refine W_skip ?_
      refine W_seq ?_
      refine wsr ?_
      refine wp rfl hC t_1 ?_
      refine wp rfl hC t_4l ?_
      refine wp rfl hC t_3b ?_
      refine wp rfl hC t_1 ?_
      refine WL_cons hC.fn t_3d ?_
      refine WL_cons hC.fn t_6i ?_
      refine wp rfl hC t_2z ?_
      refine WL_nil ?_
      refine W_cond rfl (by decide) (fun _ => ?_) (fun hc => by cases hc)
      refine W_region ?_
      refine wp rfl hC t_1 ?_
      refine wp rfl hC (oc_div hC (.inl rfl) (.tmp rfl) .cint t_j (r := (r.getD k 0 / 4)) (u8_quo hx) rfl rfl) ?_
      refine wp rfl hC (oc_bin hC rfl (.tmp rfl) .cint (r := (r.getD k 0 / 4 * 4)) (u8_mul (by omega)) rfl rfl) ?_
      refine wp rfl hC t_4 ?_
      refine WL_nil ?_
      refine W_region ?_
      refine wp rfl hC t_1 ?_
      refine wp rfl hC t_1 ?_
      refine wp rfl hC t_3v ?_
      refine wp rfl hC t_6o ?_
      refine wp rfl hC t_4 ?_
      refine WL_nil ?_
      refine W_region ?_
      refine wp rfl hC t_1 ?_
      refine wp rfl hC t_36 ?_
      refine wp rfl hC t_4 ?_
      refine WL_nil ?_
      exact ⟨(k + 1), (by omega), (weak (fun k => bif Nat.beq k 0 then 1 else k) (.cons rfl t_30 t_0 (.cons rfl t_5 t_6 (.cons rfl t_2y trivial .nil))) (.cons rfl (renRow rfl t_2j) rfl t_0 .nil) rfl rfl rfl), (by omega)⟩
    ·
      have hCk : clampC k (r.getD k 0) = r.getD k 0 := by unfold clampC; rw [if_neg h.1, if_neg h.2.1]
      refine W_region ?_
      refine wp rfl hC t_1 ?_
      refine wp rfl hC t_4l ?_
      refine wp rfl hC t_37 ?_
      refine WL_nil ?_
      refine W_cond rfl (by decide) (fun hc => by cases hc) (fun _ => ?_)
      refine W_skip ?_
      refine W_seq ?_
      refine wsr ?_
      refine wp rfl hC t_1 ?_
      refine wp rfl hC t_4l ?_
      refine wp rfl hC t_37 ?_
      refine wp rfl hC t_1 ?_
      refine WL_cons hC.fn (.no (s1 := ⟨_, (23, .tu []) :: _, _⟩) rfl rfl (by decide) rfl (by decide) (dst_ok rfl rfl) (fun t => setE_cons _ _ _ _) rfl rfl) ?_
      refine WL_cons hC.fn (.no (s1 := ⟨_, (24, .tu []) :: _, _⟩) rfl rfl (by decide) rfl (by decide) (dst_ok rfl rfl) (fun t => setE_cons _ _ _ _) rfl rfl) ?_
      refine wp rfl hC t_2z ?_
      refine WL_nil ?_
      refine W_cond rfl (by decide) (fun hc => by cases hc) (fun _ => ?_)
      refine W_skip ?_
      refine W_region ?_
      refine wp rfl hC t_1 ?_
      refine wp rfl hC t_1 ?_
      refine wp rfl hC t_3v ?_
      refine wp rfl hC t_6o ?_
      refine wp rfl hC t_4 ?_
      refine WL_nil ?_
      refine W_region ?_
      refine wp rfl hC t_1 ?_
      refine wp rfl hC t_36 ?_
      refine wp rfl hC t_4 ?_
      refine WL_nil ?_
      exact ⟨(k + 1), (by omega), (weak (fun k => bif Nat.beq k 0 then 1 else k) (.cons rfl t_30 t_0 (.cons rfl t_5 t_6 (.cons rfl t_2y trivial .nil))) (.cons rfl (renRow rfl t_2j) rfl t_0 .nil) rfl rfl rfl), (by omega)⟩
    ·
      have hCk : clampC k (r.getD k 0) = r.getD k 0 := by unfold clampC; rw [if_neg h.1, if_neg (by omega)]
      refine W_region ?_
      refine wp rfl hC t_1 ?_
      refine wp rfl hC t_4l ?_
      refine wp rfl hC t_37 ?_
      refine WL_nil ?_
      refine W_cond rfl (by decide) (fun hc => by cases hc) (fun _ => ?_)
      refine W_skip ?_
      refine W_seq ?_
      refine wsr ?_
      refine wp rfl hC t_1 ?_
      refine wp rfl hC t_4l ?_
      refine wp rfl hC t_3b ?_
      refine wp rfl hC t_1 ?_
      refine WL_cons hC.fn t_3d ?_
      refine WL_cons hC.fn t_6k ?_
      refine wp rfl hC t_2z ?_
      refine WL_nil ?_
      refine W_cond rfl (by decide) (fun hc => by cases hc) (fun _ => ?_)
      refine W_skip ?_
      refine W_region ?_
      refine wp rfl hC t_1 ?_
      refine wp rfl hC t_1 ?_
      refine wp rfl hC t_3v ?_
      refine wp rfl hC t_6o ?_
      refine wp rfl hC t_4 ?_
      refine WL_nil ?_
      refine W_region ?_
      refine wp rfl hC t_1 ?_
      refine wp rfl hC t_36 ?_
      refine wp rfl hC t_4 ?_
      refine WL_nil ?_
      exact ⟨(k + 1), (by omega), (weak (fun k => bif Nat.beq k 0 then 1 else k) (.cons rfl t_30 t_0 (.cons rfl t_5 t_6 (.cons rfl t_2y trivial .nil))) (.cons rfl (renRow rfl t_2j) rfl t_0 .nil) rfl rfl rfl), (by omega)⟩
  ·
    replace hc := lss_f hc
    obtain rfl : k = 16 := by omega
    rw [List.take_of_length_le (show (clampL r).length ≤ 16 by rw [length_clampL]; decide)]
    refine W_exit ?_
    refine wsr ?_
    refine wp rfl hC t_1 ?_
    refine wp rfl hC t_4 ?_
    refine WL_nil ?_
    refine W_ret ?_
    exact fin1 (.cons (.tmp rfl) .nil) rfl rfl (inSL_I _)
set_option maxRecDepth 20000 in
set_option maxHeartbeats 4000000 in
theorem rtimes_c (A : Nat) (r : List Int) (hA : A < 1393796574908163946345982392040522594123776) (hl : r.length = 16) (hb : B8 r) : FnC Tryd.prog 53 [] [.vs 18 (I .i64 (fixL A 18)), .vs 16 (I .u8 r)] [] [(0, .row 3 1 18 (I .i64 (fixL (lb r * A % 1361129467683753853853498429727072845819) 18)))] (.row 0) := by
  have hfA := length_fixL A 18
  have hlA : lb (fixL A 18) = A := (lb_fixL 18 A).trans (Nat.mod_eq_of_lt (Nat.lt_of_lt_of_le hA (by decide)))
  refine FnC.introR (N0 := 0) (T := 34) (E := [(0, .vs 18 (I .i64 (fixL A 18))), (1, .vs 16 (I .u8 r))]) Tryd.func53 rfl (by decide) mix rfl rfl rfl (by simp) rfl ⟨t_b, t_b, trivial⟩ (by simp) (by
        intro S ha hr hw
        have s0 : S 0 := hw 0 t_17 t_5
        refine ⟨by first | exact inSL_I _ | simp [s0], fun k b hm => ?_⟩
        simp only [List.mem_cons, Prod.mk.injEq, List.not_mem_nil, or_false] at hm
        rcases hm with ⟨rfl, rfl⟩
        · exact ⟨s0, by first | exact inSL_I _ | simp [s0]⟩) (fun F n0 X w ρ hC hro => ?_)
  refine wsr ?_
  refine wp rfl hC t_v ?_
  refine WL_nil ?_
  refine wsr ?_
  refine wp rfl hC t_66 ?_
  refine wp rfl hC t_4 ?_
  refine WL_nil ?_
  refine W_seq ?_
  refine wsr ?_
  refine wp rfl hC t_k ?_
  refine WL_nil ?_
  refine W_blk ?_
  refine W_loopW (fun (ζ : Nat) => ⟨1, [(0, .vs 18 (I .i64 (fixL A 18))), (1, .vs 16 (I .u8 r)), (5, .row 0), (6, .i .i64 ((ζ : Int) - 1))], [(0, .row 3 1 18 (I .i64 (fixL (lb (r.drop ζ) * A % 1361129467683753853853498429727072845819) 18)))]⟩) (fun ζ => ζ ≤ 16) (fun ζ => ζ) (16) (Nat.le_refl _) (weak (fun k => k) (.cons rfl ren_vsI t_0 (.cons rfl ren_vsI t_0 (.cons rfl t_5 t_6 (.cons rfl (congrArg (AV.i _) (by decide)) trivial .nil)))) (.cons rfl (renRow rfl (by rw [List.drop_of_length_le (show r.length ≤ 16 by omega), lb_nil, Nat.zero_mul, Nat.zero_mod, fixL_zero])) rfl t_0 .nil) rfl rfl rfl) ?_
  intro k hR
  replace hR : k ≤ 16 := hR
  first | show W _ _ _ ⟨1, [(0, .vs 18 (I .i64 (fixL A 18))), (1, .vs 16 (I .u8 r)), (5, .row 0), (6, .i .i64 ((k : Int) - 1))], [(0, .row 3 1 18 (I .i64 (fixL (lb (r.drop k) * A % 1361129467683753853853498429727072845819) 18)))]⟩ | skip
  refine W_seq ?_
  refine wsr ?_
  refine wp rfl hC t_1 ?_
  refine wp rfl hC t_11 ?_
  refine WL_nil ?_
  refine W_cond rfl (by decide) (fun hc => ?_) (fun hc => ?_)
  ·
    replace hc := geq_t hc
    obtain ⟨i, rfl⟩ : ∃ i, k = i + 1 := ⟨k - 1, by omega⟩
    have hx := hb.get i
    have hV : (lb (r.drop (i + 1)) * A % 1361129467683753853853498429727072845819) < 1361129467683753853853498429727072845819 := Nat.mod_lt _ (by decide)
    refine W_skip ?_
    refine W_seq ?_
    refine W_blk ?_
    refine wsr ?_
    refine wp rfl hC (ox_litRI (k := .i64) (ws := [0]) hC (.cons .cint .nil) Tryd.underlying77 cells_3 zero_3 rfl (by decide) rfl rfl t_5 rfl rfl rfl) ?_
    refine wp rfl hC t_1 ?_
    refine wp rfl hC (ox_cutS (u' := .sl 0 0 17) hC (.tmp rfl) .no (.yes (n := 17) .cint t_w) idx_77 t_3w t_2 t_2 rfl rfl rfl) ?_
    refine wp rfl hC (ox_append (n' := 18) (cs' := I .i64 (fixL (256 * (lb (r.drop (i + 1)) * A % 1361129467683753853853498429727072845819)) 18)) hC (.tmp rfl) (.tmp rfl) t_35 t_a t_r Tryd.underlying77 cells_3 bytes_3 zero_3 rfl (by decide) (by simp [Blk.cs, length_fixL]) (by rw [List.drop_zero]; exact one_takeI) rfl (by exact app_up) t_n (by omega) rfl rfl) ?_
    refine wp rfl hC t_4 ?_
    refine WL_nil ?_
    refine wsr ?_
    refine wp rfl hC t_1 ?_
    refine wp rfl hC (oc_callG (τ := fun k => bif Nat.beq k 1 then 3 else bif Nat.beq k 0 then 2 else k) (N' := 4) hC .func (.cons (.tmp rfl) .nil) (.own t_5 .end) (rmod_c (256 * (lb (r.drop (i + 1)) * A % 1361129467683753853853498429727072845819)) (by omega)) glob_nil (mr_cons t_g rfl mr_nil) (mr_cons t_g rfl mr_nil) rfl (rd_cons rfl rd_nil) rfl rfl rfl rfl t_4p rfl (dst_ok rfl rfl) (fun t => setE_cons _ _ _ _)) ?_
    refine wp rfl hC t_4 ?_
    refine WL_nil ?_
    refine wsr ?_
    refine wp rfl hC t_k ?_
    refine WL_nil ?_
    refine W_blk ?_
    refine W_loopW (fun (ζ : Nat) => ⟨1, [(0, .vs 18 (I .i64 (fixL A 18))), (1, .vs 16 (I .u8 r)), (5, .row 0), (6, .i .i64 (i : Int)), (8, .i .i64 ζ)], [(0, .row 3 1 18 (I .i64 (fixL (((256 * (lb (r.drop (i + 1)) * A % 1361129467683753853853498429727072845819)) + ζ * A) % 1361129467683753853853498429727072845819) 18)))]⟩) (fun ζ => ζ ≤ (r.getD i 0).toNat) (fun ζ => (r.getD i 0).toNat - ζ) (0) (Nat.zero_le _) (weak (fun k => bif Nat.beq k 0 then 3 else k) (.cons rfl ren_vsI t_0 (.cons rfl ren_vsI t_0 (.cons rfl t_5 t_6 (.cons rfl (congrArg (AV.i _) (by omega)) trivial (.cons rfl rfl trivial .nil))))) (.cons rfl (renRow rfl (by rw [Nat.zero_mul, Nat.add_zero])) rfl t_0 .nil) rfl rfl rfl) ?_
    intro j hR
    replace hR : j ≤ (r.getD i 0).toNat := hR
    first | show W _ _ _ ⟨1, [(0, .vs 18 (I .i64 (fixL A 18))), (1, .vs 16 (I .u8 r)), (5, .row 0), (6, .i .i64 (i : Int)), (8, .i .i64 j)], [(0, .row 3 1 18 (I .i64 (fixL (((256 * (lb (r.drop (i + 1)) * A % 1361129467683753853853498429727072845819)) + j * A) % 1361129467683753853853498429727072845819) 18)))]⟩ | skip
    have hW : (((256 * (lb (r.drop (i + 1)) * A % 1361129467683753853853498429727072845819)) + j * A) % 1361129467683753853853498429727072845819) < 1361129467683753853853498429727072845819 := Nat.mod_lt _ (by decide)
    have hlW : lb (fixL (((256 * (lb (r.drop (i + 1)) * A % 1361129467683753853853498429727072845819)) + j * A) % 1361129467683753853853498429727072845819) 18) = (((256 * (lb (r.drop (i + 1)) * A % 1361129467683753853853498429727072845819)) + j * A) % 1361129467683753853853498429727072845819) := (lb_fixL 18 _).trans (Nat.mod_eq_of_lt (Nat.lt_of_lt_of_le hW (by decide)))
    refine W_seq ?_
    refine wsr ?_
    refine wp rfl hC t_1 ?_
    refine wp rfl hC t_1 ?_
    refine wp rfl hC t_1 ?_
    refine wp rfl hC (ox_indexS hC (j := i) (.tmp rfl) (.tmp rfl) idx_22 (by omega) t_d t_33 t_2 rfl rfl) ?_
    refine wp rfl hC t_6l ?_
    refine wp rfl hC (oc_conv hC (.tmp rfl) rfl Tryd.underlying3 (r := ((r.getD i 0).toNat : Int)) ((i64_conv (by omega)).trans (by omega)) rfl rfl) ?_
    refine wp rfl hC t_1e ?_
    refine WL_nil ?_
    refine W_cond rfl (by decide) (fun hc => ?_) (fun hc => ?_)
    ·
      replace hc := lss_t hc
      
      refine W_skip ?_
      refine W_seq ?_
      refine W_blk ?_
      refine W_region ?_
      refine wp rfl hC t_1 ?_
      refine wp rfl hC t_1 ?_
      refine wp rfl hC (oc_callN hC (.cons (.tmp rfl) (.cons (.tmp rfl) (.cons .cint .nil))) (.cons1 t_31 (.cons1 t_31 (.cons1 (.free t_0) (.same t_0)))) (radd_c (fixL (((256 * (lb (r.drop (i + 1)) * A % 1361129467683753853853498429727072845819)) + j * A) % 1361129467683753853853498429727072845819) 18) (fixL A 18) 18 18 18 (length_fixL _ _) hfA (B8_fixL _ _) (B8_fixL _ _) (by decide)) glob_nil t_0 rfl t_q rfl rfl) ?_
      rw [hlW, hlA]
      refine wp rfl hC (oc_callG (τ := fun k => bif Nat.beq k 1 then 2 else bif Nat.beq k 0 then 1 else k) (N' := 3) hC .func (.cons (.tmp rfl) .nil) (.own t_5 .end) (rmod_c ((((256 * (lb (r.drop (i + 1)) * A % 1361129467683753853853498429727072845819)) + j * A) % 1361129467683753853853498429727072845819) + A) (by omega)) glob_nil (mr_cons t_g rfl mr_nil) (mr_cons t_g rfl mr_nil) rfl (rd_cons rfl rd_nil) rfl rfl rfl rfl t_4p rfl (dst_ok rfl rfl) (fun t => setE_cons _ _ _ _)) ?_
      refine wp rfl hC t_4 ?_
      refine WL_nil ?_
      refine W_region ?_
      refine wp rfl hC t_1 ?_
      refine wp rfl hC t_36 ?_
      refine wp rfl hC t_4 ?_
      refine WL_nil ?_
      exact ⟨(j + 1), (by show j + 1 ≤ _; omega), (weak (fun k => bif Nat.beq k 0 then 2 else k) (.cons rfl ren_vsI t_0 (.cons rfl ren_vsI t_0 (.cons rfl t_5 t_6 (.cons rfl t_2y trivial (.cons rfl t_2y trivial .nil))))) (.cons rfl (renRow rfl (by rw [times_j])) rfl t_0 .nil) rfl rfl rfl), (by show _ - (j + 1) < _ - j; omega)⟩
    ·
      replace hc := lss_f hc
      have hj : j = (r.getD i 0).toNat := by omega
      have hVi : (((256 * (lb (r.drop (i + 1)) * A % 1361129467683753853853498429727072845819)) + j * A) % 1361129467683753853853498429727072845819) = (lb (r.drop i) * A % 1361129467683753853853498429727072845819) := by rw [hj]; exact times_k r A i
      refine W_exit ?_
      refine W_region ?_
      refine wp rfl hC t_1 ?_
      refine wp rfl hC t_40 ?_
      refine wp rfl hC t_4 ?_
      refine WL_nil ?_
      exact ⟨(i), (by omega), (weak (fun k => k) (.cons rfl ren_vsI t_0 (.cons rfl ren_vsI t_0 (.cons rfl t_5 t_6 (.cons rfl (congrArg (AV.i _) (by omega)) trivial .nil)))) (.cons rfl (renRow rfl (by rw [hVi])) rfl t_0 .nil) rfl rfl rfl), (by omega)⟩
  ·
    replace hc := geq_f hc
    obtain rfl : k = 0 := by omega
    rw [List.drop_zero]
    refine W_exit ?_
    refine wsr ?_
    refine wp rfl hC t_1 ?_
    refine wp rfl hC t_4 ?_
    refine WL_nil ?_
    refine W_ret ?_
    exact fin1 (.cons (.tmp rfl) .nil) rfl rfl (inSL_I _)
set_option maxRecDepth 20000 in
set_option maxHeartbeats 4000000 in
theorem rtag_c (key b : List Int) (hk : key.length = 32) (bk : B8 key) (bb : B8 b) (hl : b.length ≤ 1099511627776) : FnC Tryd.prog 41 [] [.vs 32 (I .u8 key), .vs b.length (I .u8 b)] [] [(0, .row 5 1 16 (I .u8 (tagL key b)))] (.row 0) := by
  have htl : tagL key b = fixL (tagV (lb (clampL (key.take 16))) b + lb (key.drop 16)) 16 := by unfold tagL; rfl
  obtain ⟨Rn, hRn⟩ : ∃ Rn, lb (clampL (key.take 16)) = Rn := ⟨_, rfl⟩
  obtain ⟨Sn, hSn⟩ : ∃ Sn, lb (key.drop 16) = Sn := ⟨_, rfl⟩
  rw [hRn, hSn] at htl
  rw [htl]
  have l1 : (key.take 16).length = 16 := by rw [List.length_take]; omega
  have l2 : (key.drop 16).length = 16 := by rw [List.length_drop]; omega
  have b1 : B8 (key.take 16) := fun x hx => bk x (List.mem_of_mem_take hx)
  have b2 : B8 (key.drop 16) := fun x hx => bk x (List.mem_of_mem_drop hx)
  have hS := lb_lt16 b2 l2
  rw [hSn] at hS
  have hT := tagV_lt Rn b
  refine FnC.introR (N0 := 0) (T := 83) (E := [(0, .vs 32 (I .u8 key)), (1, .vs b.length (I .u8 b))]) Tryd.func41 rfl (by decide) mix rfl rfl rfl (by simp) rfl ⟨t_b, t_b, trivial⟩ (by simp) (by
        intro S ha hr hw
        have s0 : S 0 := hw 0 t_17 t_5
        refine ⟨by first | exact inSL_I _ | simp [s0], fun k b hm => ?_⟩
        simp only [List.mem_cons, Prod.mk.injEq, List.not_mem_nil, or_false] at hm
        rcases hm with ⟨rfl, rfl⟩
        · exact ⟨s0, by first | exact inSL_I _ | simp [s0]⟩) (fun F n0 X w ρ hC hro => ?_)
  refine wsr ?_
  refine wp rfl hC t_v ?_
  refine WL_nil ?_
  refine wsr ?_
  refine wp rfl hC t_1 ?_
  refine wp rfl hC (ox_cutS (u' := .vs 16 (I .u8 (key.take 16))) hC (.tmp rfl) .no (.yes (n := 16) .cint t_w) idx_22 t_3w t_2 t_2 (by rw [cut_vsI, List.drop_zero]) rfl rfl) ?_
  refine wp rfl hC (oc_callN hC (.cons (.tmp rfl) .nil) (.cons1 t_31 (.same t_0)) (rclamp_c (key.take 16) l1 b1) glob_nil t_0 rfl t_q rfl rfl) ?_
  refine wp rfl hC t_4 ?_
  refine WL_nil ?_
  refine wsr ?_
  refine wp rfl hC t_66 ?_
  refine wp rfl hC t_4 ?_
  refine WL_nil ?_
  refine W_seq ?_
  refine wsr ?_
  refine wp rfl hC t_k ?_
  refine WL_nil ?_
  refine W_blk ?_
  refine W_loopW (fun (ζ : Nat × Nat × Nat) => ⟨2, [(0, .vs 32 (I .u8 key)), (1, .vs b.length (I .u8 b)), (5, .row 0), (6, .row 1), (7, .i .i64 ζ.2.2)], [(0, .row 5 1 16 (I .u8 (clampL (key.take 16)))), (1, .row 3 1 18 (I .i64 (fixL ζ.2.1 18)))]⟩) (fun ζ => TagR Rn (tagV Rn b) ζ.1 ζ.2.1 (b.drop ζ.2.2) ∧ ζ.2.2 ≤ 1099511627792) (fun ζ => b.length - ζ.2.2) (((b.length + 15) / 16), 0, 0) ⟨TagR.zero Rn b, Nat.zero_le _⟩ (weak (fun k => k) (.cons rfl ren_vsI t_0 (.cons rfl ren_vsI t_0 (.cons rfl t_5 t_6 (.cons rfl t_5 t_6 (.cons rfl rfl trivial .nil))))) (.cons rfl (renRow rfl rfl) rfl t_0 (.cons rfl (renRow rfl (by rw [fixL_zero])) rfl t_0 .nil)) rfl rfl rfl) ?_
  rintro ⟨m, a, i⟩ hR
  replace hR : TagR Rn (tagV Rn b) m a (b.drop i) ∧ i ≤ 1099511627792 := hR
  first | show W _ _ _ ⟨2, [(0, .vs 32 (I .u8 key)), (1, .vs b.length (I .u8 b)), (5, .row 0), (6, .row 1), (7, .i .i64 i)], [(0, .row 5 1 16 (I .u8 (clampL (key.take 16)))), (1, .row 3 1 18 (I .i64 (fixL a 18)))]⟩ | skip
  refine W_seq ?_
  refine wsr ?_
  refine wp rfl hC t_1 ?_
  refine wp rfl hC t_1 ?_
  refine wp rfl hC t_32 ?_
  refine wp rfl hC t_1e ?_
  refine WL_nil ?_
  refine W_cond rfl (by decide) (fun hc => ?_) (fun hc => ?_)
  ·
    replace hc := lss_t hc
    have b3 : B8 (b.drop i) := fun x hx => bb x (List.mem_of_mem_drop hx)
    have hch := chunk_lt b3
    have hlt := hR.1.lt
    have hR0 := hR.1
    have hR0i := hR.2
    have hla : lb (fixL a 18) = a := (lb_fixL 18 a).trans (Nat.mod_eq_of_lt (Nat.lt_trans hlt (by decide)))
    refine W_skip ?_
    refine W_seq ?_
    refine W_blk ?_
    refine wsr ?_
    refine wp rfl hC t_v ?_
    refine WL_nil ?_
    refine W_seq ?_
    refine wsr ?_
    refine wp rfl hC t_1 ?_
    refine wp rfl hC t_4 ?_
    refine WL_nil ?_
    refine W_blk ?_
    refine W_weak (weak_nil (t := 8) (e := 3) (sz := 1) rfl) ?_
    refine W_loopW (fun (ζ : Nat) => ⟨3, [(0, .vs 32 (I .u8 key)), (1, .vs b.length (I .u8 b)), (5, .row 0), (6, .row 1), (7, .i .i64 i), (8, .row 2), (9, .i .i64 ((i : Int) + ζ))], [(0, .row 5 1 16 (I .u8 (clampL (key.take 16)))), (1, .row 3 1 18 (I .i64 (fixL a 18))), (2, .row 3 1 ζ (I .i64 ((b.drop i).take ζ)))]⟩) (fun ζ => ζ ≤ 16 ∧ i + ζ ≤ b.length) (fun ζ => 16 - ζ) (0) ⟨Nat.zero_le _, by omega⟩ (weak (fun k => k) (.cons rfl ren_vsI t_0 (.cons rfl ren_vsI t_0 (.cons rfl t_5 t_6 (.cons rfl t_5 t_6 (.cons rfl t_2y trivial (.cons rfl t_5 t_6 (.cons rfl (congrArg (AV.i _) (by omega)) trivial .nil))))))) (.cons rfl (renRow rfl rfl) rfl t_0 (.cons rfl (renRow rfl rfl) rfl t_0 (.cons rfl (renRow (l' := []) rfl rfl) rfl t_0 .nil))) rfl rfl rfl) ?_
    intro j hR
    replace hR : j ≤ 16 ∧ i + j ≤ b.length := hR
    first | show W _ _ _ ⟨3, [(0, .vs 32 (I .u8 key)), (1, .vs b.length (I .u8 b)), (5, .row 0), (6, .row 1), (7, .i .i64 i), (8, .row 2), (9, .i .i64 ((i : Int) + j))], [(0, .row 5 1 16 (I .u8 (clampL (key.take 16)))), (1, .row 3 1 18 (I .i64 (fixL a 18))), (2, .row 3 1 j (I .i64 ((b.drop i).take j)))]⟩ | skip
    refine W_seq ?_
    refine W_seq ?_
    rcases (show (i + j < b.length ∧ j < 16) ∨ i + j = b.length ∨ (i + j < b.length ∧ j = 16) by omega) with h | h | h
    ·
      have hx := bb.get (i + j)
      refine W_region ?_
      refine wp rfl hC t_1 ?_
      refine wp rfl hC t_1 ?_
      refine wp rfl hC t_32 ?_
      refine wp rfl hC t_3u ?_
      refine wp rfl hC t_1 ?_
      refine WL_cons hC.fn t_3d ?_
      refine WL_cons hC.fn t_3d ?_
      refine WL_cons hC.fn (.yes rfl rfl (by decide) rfl t_36) ?_
      refine WL_cons hC.fn (.yes rfl rfl (by decide) rfl t_3u) ?_
      refine wp rfl hC t_2z ?_
      refine WL_nil ?_
      refine W_cond rfl (by decide) (fun _ => ?_) (fun hc => by cases hc)
      refine W_skip ?_
      refine W_seq ?_
      refine W_blk ?_
      refine W_region ?_
      refine wp rfl hC t_1 ?_
      refine wp rfl hC t_1 ?_
      refine wp rfl hC t_1 ?_
      refine wp rfl hC (ox_indexS hC (j := (i + j)) (.tmp rfl) (.tmp rfl) idx_22 (by omega) t_d t_33 t_2 rfl rfl) ?_
      refine wp rfl hC t_6l ?_
      refine wp rfl hC (oc_conv hC (.tmp rfl) rfl Tryd.underlying3 (r := (b.getD (i + j) 0)) (i64_conv (by omega)) rfl rfl) ?_
      refine wp rfl hC t_42 ?_
      refine wp rfl hC t_6v ?_
      refine wp rfl hC t_4 ?_
      refine WL_nil ?_
      refine W_region ?_
      refine wp rfl hC t_1 ?_
      refine wp rfl hC t_36 ?_
      refine wp rfl hC t_4 ?_
      refine WL_nil ?_
      exact ⟨(j + 1), ⟨by omega, by omega⟩, (weak (fun k => bif Nat.beq k 2 then 3 else k) (.cons rfl ren_vsI t_0 (.cons rfl ren_vsI t_0 (.cons rfl t_5 t_6 (.cons rfl t_5 t_6 (.cons rfl t_2y trivial (.cons rfl t_5 t_6 (.cons rfl (congrArg (AV.i _) (by omega)) trivial .nil))))))) (.cons rfl (renRow rfl rfl) rfl t_0 (.cons rfl (renRow rfl rfl) rfl t_0 (.cons rfl (renRow rfl (by rw [List.take_succ_eq_append_getElem t_1y, List.getElem_drop, List.getD_eq_getElem?_getD, List.getElem?_eq_getElem (by omega)]; rfl)) rfl t_0 .nil))) rfl rfl rfl), (by omega)⟩
    ·
      have hte : (b.drop i).take j = (b.drop i).take 16 := by
        rcases Nat.lt_or_ge j 16 with g | g
        · rw [List.take_of_length_le t_1y, List.take_of_length_le t_1y]
        · rw [show j = 16 by omega]
      have htl2 : ((b.drop i).take 16).length = j := by rw [← hte, List.length_take, List.length_drop]; omega
      have hcl17 : ((b.drop i).take 16 ++ [1]).length ≤ 17 := by rw [List.length_append, htl2]; show j + 1 ≤ 17; omega
      refine W_region ?_
      refine wp rfl hC t_1 ?_
      refine wp rfl hC t_1 ?_
      refine wp rfl hC t_32 ?_
      refine wp rfl hC t_41 ?_
      refine wp rfl hC t_1 ?_
      refine WL_cons hC.fn (.no (s1 := ⟨_, (31, .tu []) :: _, _⟩) rfl rfl (by decide) rfl (by decide) (dst_ok rfl rfl) (fun t => setE_cons _ _ _ _) rfl rfl) ?_
      refine WL_cons hC.fn (.no (s1 := ⟨_, (32, .tu []) :: _, _⟩) rfl rfl (by decide) rfl (by decide) (dst_ok rfl rfl) (fun t => setE_cons _ _ _ _) rfl rfl) ?_
      refine WL_cons hC.fn (.no (s1 := ⟨_, (33, .tu []) :: _, _⟩) rfl rfl (by decide) rfl (by decide) (dst_ok rfl rfl) (fun t => setE_cons _ _ _ _) rfl rfl) ?_
      refine WL_cons hC.fn (.no (s1 := ⟨_, (34, .tu []) :: _, _⟩) rfl rfl (by decide) rfl (by decide) (dst_ok rfl rfl) (fun t => setE_cons _ _ _ _) rfl rfl) ?_
      refine wp rfl hC t_2z ?_
      refine WL_nil ?_
      refine W_cond rfl (by decide) (fun hc => by cases hc) (fun _ => ?_)
      refine W_exit ?_
      refine wsr ?_
      refine wp rfl hC t_1 ?_
      refine wp rfl hC t_53 ?_
      refine wp rfl hC t_88 ?_
      refine wp rfl hC t_4 ?_
      refine WL_nil ?_
      refine W_region ?_
      refine wp rfl hC t_1 ?_
      refine wp rfl hC t_1 ?_
      refine wp rfl hC t_8e ?_
      rw [hla]
      refine wp rfl hC t_8d ?_
      refine wp rfl hC t_1 ?_
      refine wp rfl hC t_8b ?_
      rw [hRn, Nat.mul_comm Rn, Nat.mod_mul_mod]
      refine wp rfl hC t_4 ?_
      refine WL_nil ?_
      refine W_region ?_
      refine wp rfl hC t_1 ?_
      refine wp rfl hC t_36 ?_
      refine wp rfl hC t_4 ?_
      refine WL_nil ?_
      exact ⟨((m - 1), ((a + (lb ((b.drop i).take 16 ++ [1]))) * Rn % 1361129467683753853853498429727072845819), (i + 16)), ⟨by have h := hR0.succ t_1y; rwa [List.drop_drop] at h, by show i + 16 ≤ _; omega⟩, (weak (fun k => bif Nat.beq k 1 then 6 else k) (.cons rfl ren_vsI t_0 (.cons rfl ren_vsI t_0 (.cons rfl t_5 t_6 (.cons rfl t_5 t_6 (.cons rfl rfl trivial .nil))))) (.cons rfl (renRow rfl rfl) rfl t_0 (.cons rfl (renRow rfl rfl) rfl t_0 .nil)) rfl rfl rfl), (by show b.length - (i + 16) < b.length - i; omega)⟩
    ·
      have hte : (b.drop i).take j = (b.drop i).take 16 := by
        rcases Nat.lt_or_ge j 16 with g | g
        · rw [List.take_of_length_le t_1y, List.take_of_length_le t_1y]
        · rw [show j = 16 by omega]
      have htl2 : ((b.drop i).take 16).length = j := by rw [← hte, List.length_take, List.length_drop]; omega
      have hcl17 : ((b.drop i).take 16 ++ [1]).length ≤ 17 := by rw [List.length_append, htl2]; show j + 1 ≤ 17; omega
      refine W_region ?_
      refine wp rfl hC t_1 ?_
      refine wp rfl hC t_1 ?_
      refine wp rfl hC t_32 ?_
      refine wp rfl hC t_3u ?_
      refine wp rfl hC t_1 ?_
      refine WL_cons hC.fn t_3d ?_
      refine WL_cons hC.fn t_3d ?_
      refine WL_cons hC.fn (.yes rfl rfl (by decide) rfl t_36) ?_
      refine WL_cons hC.fn t_7c ?_
      refine wp rfl hC t_2z ?_
      refine WL_nil ?_
      refine W_cond rfl (by decide) (fun hc => by cases hc) (fun _ => ?_)
      refine W_exit ?_
      refine wsr ?_
      refine wp rfl hC t_1 ?_
      refine wp rfl hC t_53 ?_
      refine wp rfl hC t_88 ?_
      refine wp rfl hC t_4 ?_
      refine WL_nil ?_
      refine W_region ?_
      refine wp rfl hC t_1 ?_
      refine wp rfl hC t_1 ?_
      refine wp rfl hC t_8e ?_
      rw [hla]
      refine wp rfl hC t_8d ?_
      refine wp rfl hC t_1 ?_
      refine wp rfl hC t_8b ?_
      rw [hRn, Nat.mul_comm Rn, Nat.mod_mul_mod]
      refine wp rfl hC t_4 ?_
      refine WL_nil ?_
      refine W_region ?_
      refine wp rfl hC t_1 ?_
      refine wp rfl hC t_36 ?_
      refine wp rfl hC t_4 ?_
      refine WL_nil ?_
      exact ⟨((m - 1), ((a + (lb ((b.drop i).take 16 ++ [1]))) * Rn % 1361129467683753853853498429727072845819), (i + 16)), ⟨by have h := hR0.succ t_1y; rwa [List.drop_drop] at h, by show i + 16 ≤ _; omega⟩, (weak (fun k => bif Nat.beq k 1 then 6 else k) (.cons rfl ren_vsI t_0 (.cons rfl ren_vsI t_0 (.cons rfl t_5 t_6 (.cons rfl t_5 t_6 (.cons rfl rfl trivial .nil))))) (.cons rfl (renRow rfl rfl) rfl t_0 (.cons rfl (renRow rfl rfl) rfl t_0 .nil)) rfl rfl rfl), (by show b.length - (i + 16) < b.length - i; omega)⟩
  ·
    replace hc := lss_f hc
    have hE := hR.1.end t_1y
    subst hE
    have hlT : lb (fixL (tagV Rn b) 18) = (tagV Rn b) := (lb_fixL 18 _).trans (Nat.mod_eq_of_lt (Nat.lt_trans hT (by decide)))
    refine W_exit ?_
    refine wsr ?_
    refine wp rfl hC t_v ?_
    refine WL_nil ?_
    refine W_seq ?_
    refine wsr ?_
    refine wp rfl hC t_k ?_
    refine WL_nil ?_
    refine W_blk ?_
    refine W_weak (weak_nil (t := 10) (e := 3) (sz := 1) rfl) ?_
    refine W_loopW (fun (ζ : Nat) => ⟨3, [(0, .vs 32 (I .u8 key)), (6, .row 1), (10, .row 2), (11, .i .i64 (16 + (ζ : Int)))], [(1, .row 3 1 18 (I .i64 (fixL (tagV Rn b) 18))), (2, .row 3 1 ζ (I .i64 ((key.drop 16).take ζ)))]⟩) (fun ζ => ζ ≤ 16) (fun ζ => 16 - ζ) (0) (Nat.zero_le _) (weak (fun k => k) (.cons rfl ren_vsI t_0 (.cons rfl t_5 t_6 (.cons rfl t_5 t_6 (.cons rfl (congrArg (AV.i _) (by decide)) trivial .nil)))) (.cons rfl (renRow rfl rfl) rfl t_0 (.cons rfl (renRow (l' := []) rfl rfl) rfl t_0 .nil)) rfl rfl rfl) ?_
    intro u hR
    replace hR : u ≤ 16 := hR
    first | show W _ _ _ ⟨3, [(0, .vs 32 (I .u8 key)), (6, .row 1), (10, .row 2), (11, .i .i64 (16 + (u : Int)))], [(1, .row 3 1 18 (I .i64 (fixL (tagV Rn b) 18))), (2, .row 3 1 u (I .i64 ((key.drop 16).take u)))]⟩ | skip
    refine W_seq ?_
    refine wsr ?_
    refine wp rfl hC t_1 ?_
    refine wp rfl hC t_11 ?_
    refine WL_nil ?_
    refine W_cond rfl (by decide) (fun hc => ?_) (fun hc => ?_)
    ·
      replace hc := lss_t hc
      have hx := bk.get (16 + u)
      refine W_skip ?_
      refine W_seq ?_
      refine W_blk ?_
      refine W_region ?_
      refine wp rfl hC t_1 ?_
      refine wp rfl hC t_1 ?_
      refine wp rfl hC t_1 ?_
      refine wp rfl hC (ox_indexS hC (j := (16 + u)) (.tmp rfl) (.tmp rfl) idx_22 (by omega) t_d t_33 t_2 rfl rfl) ?_
      refine wp rfl hC t_6l ?_
      refine wp rfl hC (oc_conv hC (.tmp rfl) rfl Tryd.underlying3 (r := (key.getD (16 + u) 0)) (i64_conv (by omega)) rfl rfl) ?_
      refine wp rfl hC t_42 ?_
      refine wp rfl hC t_6v ?_
      refine wp rfl hC t_4 ?_
      refine WL_nil ?_
      refine W_region ?_
      refine wp rfl hC t_1 ?_
      refine wp rfl hC t_36 ?_
      refine wp rfl hC t_4 ?_
      refine WL_nil ?_
      exact ⟨(u + 1), (by omega), (weak (fun k => bif Nat.beq k 2 then 3 else k) (.cons rfl ren_vsI t_0 (.cons rfl t_5 t_6 (.cons rfl t_5 t_6 (.cons rfl (congrArg (AV.i _) (by omega)) trivial .nil)))) (.cons rfl (renRow rfl rfl) rfl t_0 (.cons rfl (renRow rfl (by rw [List.take_succ_eq_append_getElem (by omega), List.getElem_drop, List.getD_eq_getElem?_getD, List.getElem?_eq_getElem (by omega)]; rfl)) rfl t_0 .nil)) rfl rfl rfl), (by omega)⟩
    ·
      replace hc := lss_f hc
      obtain rfl : u = 16 := by omega
      rw [List.take_of_length_le (show (key.drop 16).length ≤ 16 by omega)]
      refine W_exit ?_
      refine wsr ?_
      refine wp rfl hC t_1 ?_
      refine wp rfl hC t_1 ?_
      refine wp rfl hC (oc_callN hC (.cons (.tmp rfl) (.cons (.tmp rfl) (.cons .cint .nil))) (.cons1 t_31 (.cons1 t_31 (.cons1 (.free t_0) (.same t_0)))) (radd_c (fixL (tagV Rn b) 18) (key.drop 16) 16 18 16 (length_fixL _ _) l2 (B8_fixL _ _) b2 (by decide)) glob_nil t_0 rfl t_q rfl rfl) ?_
      rw [hlT, hSn]
      refine wp rfl hC t_4 ?_
      refine WL_nil ?_
      refine wsr ?_
      refine wp rfl hC t_v ?_
      refine WL_nil ?_
      refine W_seq ?_
      refine wsr ?_
      refine wp rfl hC t_k ?_
      refine WL_nil ?_
      refine W_blk ?_
      refine W_weak (weak_nil (t := 13) (e := 5) (sz := 1) rfl) ?_
      refine W_loopW (fun (ζ : Nat) => ⟨2, [(12, .row 0), (13, .row 1), (14, .i .i64 ζ)], [(0, .row 3 1 16 (I .i64 (fixL ((tagV Rn b) + Sn) 16))), (1, .row 5 1 ζ (I .u8 ((fixL ((tagV Rn b) + Sn) 16).take ζ)))]⟩) (fun ζ => ζ ≤ 16) (fun ζ => 16 - ζ) (0) (Nat.zero_le _) (weak (fun k => bif Nat.beq k 1 then 4 else bif Nat.beq k 0 then 3 else k) (.cons rfl t_5 t_6 (.cons rfl t_5 t_6 (.cons rfl rfl trivial .nil))) (.cons rfl (renRow rfl rfl) rfl t_0 (.cons rfl (renRow (l' := []) rfl rfl) rfl t_0 .nil)) rfl rfl rfl) ?_
      intro u hR
      replace hR : u ≤ 16 := hR
      first | show W _ _ _ ⟨2, [(12, .row 0), (13, .row 1), (14, .i .i64 u)], [(0, .row 3 1 16 (I .i64 (fixL ((tagV Rn b) + Sn) 16))), (1, .row 5 1 u (I .u8 ((fixL ((tagV Rn b) + Sn) 16).take u)))]⟩ | skip
      have hfl := length_fixL ((tagV Rn b) + Sn) 16
      have hx := (B8_fixL ((tagV Rn b) + Sn) 16).get u
      refine W_seq ?_
      refine wsr ?_
      refine wp rfl hC t_1 ?_
      refine wp rfl hC t_11 ?_
      refine WL_nil ?_
      refine W_cond rfl (by decide) (fun hc => ?_) (fun hc => ?_)
      ·
        replace hc := lss_t hc
        
        refine W_skip ?_
        refine W_seq ?_
        refine W_blk ?_
        refine W_region ?_
        refine wp rfl hC t_1 ?_
        refine wp rfl hC t_1 ?_
        refine wp rfl hC t_1 ?_
        refine wp rfl hC (ox_indexS hC (j := u) (.tmp rfl) (.tmp rfl) idx_77 t_w t_d t_33 t_2 rfl rfl) ?_
        refine wp rfl hC t_6m ?_
        refine wp rfl hC (oc_conv hC (.tmp rfl) rfl Tryd.underlying5 (r := ((fixL ((tagV Rn b) + Sn) 16).getD u 0)) (u8_conv (by omega)) rfl rfl) ?_
        refine wp rfl hC t_3v ?_
        refine wp rfl hC t_6o ?_
        refine wp rfl hC t_4 ?_
        refine WL_nil ?_
        refine W_region ?_
        refine wp rfl hC t_1 ?_
        refine wp rfl hC t_36 ?_
        refine wp rfl hC t_4 ?_
        refine WL_nil ?_
        exact ⟨(u + 1), (by omega), (weak (fun k => bif Nat.beq k 1 then 2 else k) (.cons rfl t_5 t_6 (.cons rfl t_5 t_6 (.cons rfl t_2y trivial .nil))) (.cons rfl (renRow rfl rfl) rfl t_0 (.cons rfl (renRow rfl (by rw [List.take_succ_eq_append_getElem (by rw [length_fixL]; omega), List.getD_eq_getElem?_getD, List.getElem?_eq_getElem (by rw [length_fixL]; omega)]; rfl)) rfl t_0 .nil)) rfl rfl rfl), (by omega)⟩
      ·
        replace hc := lss_f hc
        obtain rfl : u = 16 := by omega
        rw [List.take_of_length_le (show (fixL ((tagV Rn b) + Sn) 16).length ≤ 16 by rw [length_fixL]; exact Nat.le_refl _)]
        refine W_exit ?_
        refine wsr ?_
        refine wp rfl hC t_1 ?_
        refine wp rfl hC t_4 ?_
        refine WL_nil ?_
        refine W_ret ?_
        exact fin1 (.cons (.tmp rfl) .nil) rfl rfl (inSL_I _)
end Go.Proofs.YtfngpppghlbanaaDoor
