/- Own work, printed by a program of this claim: walks through functions of the program. -/
import Derived.Test.YtfngpppghlbanaaDoorW1
import Derived.Test.YtfngpppghlbanaaDoorProg
import Derived.KernelRfl
set_option linter.unusedSimpArgs false
set_option linter.unusedVariables false
namespace Go.Proofs.YtfngpppghlbanaaDoor
open Go.Sk Go.RowKit
attribute [local simp] AV.inSL AV.inS inSL_I Blk.inS Blk.cs AV.novs AV.novsL novsL_I AV.ren AV.cells AV.one lk tuAV
theorem bytes_3 : (Tryd.prog.info? 3).map (·.bytes) = some 8 := by kernel_rfl
theorem cells_3 : Tryd.prog.cellsOf 3 = 1 := by kernel_rfl
theorem idx_77 : idx Tryd.prog 77 = some (none, 1) := by kernel_rfl
theorem shp_3 : shp Tryd.prog 3 = some (false, 1) := by kernel_rfl
theorem zero_3 : zeroAV Tryd.prog 3 = some [.i .i64 0] := by kernel_rfl
set_option maxRecDepth 20000 in
set_option maxHeartbeats 4000000 in
theorem drword_c (n : Int) (h0 : 0 ≤ n) : FnC Tryd.prog 88 [] [.i .i64 n] [] [] (.i .i64 (n % 4294967296)) := by
  refine FnC.introR (N0 := 0) (T := 5) (E := [(0, .i .i64 n)]) Tryd.func88 rfl (by decide) mix rfl rfl rfl (by simp) rfl ⟨t_b, trivial⟩ (by simp) t_10 (fun F n0 X w ρ hC hro => ?_)
  refine wsr ?_
  refine wp rfl hC t_k ?_
  refine WL_nil ?_
  refine wsr ?_
  refine wp rfl hC t_1 ?_
  refine wp rfl hC (oc_div hC (.inr rfl) (.tmp rfl) .cint t_j (r := n % 4294967296) (rem_nn h0) rfl rfl) ?_
  refine wp rfl hC t_4 ?_
  refine WL_nil ?_
  refine W_ret ?_
  exact fin0 (.cons (.tmp rfl) .nil) t_1u t_0
set_option maxRecDepth 20000 in
set_option maxHeartbeats 4000000 in
theorem drxor_c (a b : Int) : FnC Tryd.prog 85 [] [.i .i64 a, .i .i64 b] [] [] (.i .i64 (xr a b)) := by
  refine FnC.introR (N0 := 0) (T := 11) (E := [(0, .i .i64 a), (1, .i .i64 b)]) Tryd.func85 rfl (by decide) mix rfl rfl rfl (by simp) rfl ⟨t_b, t_b, trivial⟩ (by simp) t_10 (fun F n0 X w ρ hC hro => ?_)
  refine wsr ?_
  refine wp rfl hC t_k ?_
  refine WL_nil ?_
  refine wsr ?_
  refine wp rfl hC t_1 ?_
  refine wp rfl hC (oc_conv hC (.tmp rfl) rfl Tryd.underlying63 (r := IntKind.u32.wrap a) rfl rfl rfl) ?_
  refine wp rfl hC t_1 ?_
  refine wp rfl hC (oc_conv hC (.tmp rfl) rfl Tryd.underlying63 (r := IntKind.u32.wrap b) rfl rfl rfl) ?_
  refine wp rfl hC (oc_bin hC rfl (.tmp rfl) (.tmp rfl) (r := xr a b) xr_conv rfl rfl) ?_
  refine wp rfl hC (oc_conv hC (.tmp rfl) rfl Tryd.underlying3 (r := xr a b) (i64_conv (by have := xr_range a b; omega)) rfl rfl) ?_
  refine wp rfl hC t_4 ?_
  refine WL_nil ?_
  refine W_ret ?_
  exact fin0 (.cons (.tmp rfl) .nil) t_1u t_0
set_option maxRecDepth 20000 in
set_option maxHeartbeats 4000000 in
theorem rand_c (a b : Int) : FnC Tryd.prog 89 [] [.i .i64 a, .i .i64 b] [] [] (.i .i64 (an a b)) := by
  refine FnC.introR (N0 := 0) (T := 11) (E := [(0, .i .i64 a), (1, .i .i64 b)]) Tryd.func89 rfl (by decide) mix rfl rfl rfl (by simp) rfl ⟨t_b, t_b, trivial⟩ (by simp) t_10 (fun F n0 X w ρ hC hro => ?_)
  refine wsr ?_
  refine wp rfl hC t_k ?_
  refine WL_nil ?_
  refine wsr ?_
  refine wp rfl hC t_1 ?_
  refine wp rfl hC (oc_conv hC (.tmp rfl) rfl Tryd.underlying63 (r := IntKind.u32.wrap a) rfl rfl rfl) ?_
  refine wp rfl hC t_1 ?_
  refine wp rfl hC (oc_conv hC (.tmp rfl) rfl Tryd.underlying63 (r := IntKind.u32.wrap b) rfl rfl rfl) ?_
  refine wp rfl hC (oc_bin hC rfl (.tmp rfl) (.tmp rfl) (r := an a b) an_conv rfl rfl) ?_
  refine wp rfl hC (oc_conv hC (.tmp rfl) rfl Tryd.underlying3 (r := an a b) (i64_conv (by have := an_range a b; omega)) rfl rfl) ?_
  refine wp rfl hC t_4 ?_
  refine WL_nil ?_
  refine W_ret ?_
  exact fin0 (.cons (.tmp rfl) .nil) t_1u t_0
set_option maxRecDepth 20000 in
set_option maxHeartbeats 4000000 in
theorem drturn_c (x n : Int) (m : Nat) (hn : n = m) (hx : 0 ≤ x ∧ x < 4294967296) (hm : m ≤ 32) : FnC Tryd.prog 86 [] [.i .i64 x, .i .i64 n] [] [] (.i .i64 (ror x m)) := by
  refine FnC.introR (N0 := 0) (T := 18) (E := [(0, .i .i64 x), (1, .i .i64 n)]) Tryd.func86 rfl (by decide) mix rfl rfl rfl (by simp) rfl ⟨t_b, t_b, trivial⟩ (by simp) t_10 (fun F n0 X w ρ hC hro => ?_)
  refine wsr ?_
  refine wp rfl hC t_k ?_
  refine WL_nil ?_
  refine W_seq ?_
  refine wsr ?_
  refine wp rfl hC t_k ?_
  refine WL_nil ?_
  refine W_blk ?_
  refine W_loopW (fun (ζ : Nat) => ⟨0, [(0, .i .i64 (ror x ζ)), (1, .i .i64 n), (5, .i .i64 ζ)], []⟩) (fun ζ => ζ ≤ m) (fun ζ => m - ζ) (0) (by simp) (weak (fun k => k) (.cons rfl (congrArg (AV.i _) ror_zero) trivial (.cons rfl t_2y trivial (.cons rfl rfl trivial .nil))) .nil rfl rfl rfl) ?_
  intro k hR
  replace hR : k ≤ m := hR
  first | show W _ _ _ ⟨0, [(0, .i .i64 (ror x k)), (1, .i .i64 n), (5, .i .i64 k)], []⟩ | skip
  have hr := ror_range hx (n := k) (by omega)
  refine W_seq ?_
  refine wsr ?_
  refine wp rfl hC t_1 ?_
  refine wp rfl hC t_1 ?_
  refine wp rfl hC t_1e ?_
  refine WL_nil ?_
  refine W_cond rfl (by decide) (fun hc => ?_) (fun hc => ?_)
  ·
    replace hc := lss_t hc
    refine W_skip ?_
    refine W_seq ?_
    refine W_blk ?_
    refine W_region ?_
    refine wp rfl hC t_1 ?_
    refine wp rfl hC t_4j ?_
    refine wp rfl hC t_1 ?_
    refine wp rfl hC t_45 ?_
    refine wp rfl hC t_4g ?_
    refine wp rfl hC (oc_bin hC rfl (.tmp rfl) (.tmp rfl) (r := ror x (k + 1)) (by rw [i64_add (by omega)]; exact ror_succ hx (by omega)) rfl rfl) ?_
    refine wp rfl hC t_4 ?_
    refine WL_nil ?_
    refine W_region ?_
    refine wp rfl hC t_1 ?_
    refine wp rfl hC t_36 ?_
    refine wp rfl hC t_4 ?_
    refine WL_nil ?_
    exact ⟨(k + 1), (by omega), (weak (fun k => k) (.cons rfl t_2y trivial (.cons rfl t_2y trivial (.cons rfl t_2y trivial .nil))) .nil rfl rfl rfl), (by omega)⟩
  ·
    replace hc := lss_f hc
    obtain rfl : k = m := by omega
    refine W_exit ?_
    refine wsr ?_
    refine wp rfl hC t_1 ?_
    refine wp rfl hC t_4 ?_
    refine WL_nil ?_
    refine W_ret ?_
    exact fin0 (.cons (.tmp rfl) .nil) t_1u t_0
set_option maxRecDepth 20000 in
set_option maxHeartbeats 4000000 in
theorem rshift_c (x n : Int) (m : Nat) (hn : n = m) (hx : 0 ≤ x ∧ x ≤ 4294967296) (hm : m ≤ 32) : FnC Tryd.prog 87 [] [.i .i64 x, .i .i64 n] [] [] (.i .i64 (x / 2 ^ m)) := by
  refine FnC.introR (N0 := 0) (T := 14) (E := [(0, .i .i64 x), (1, .i .i64 n)]) Tryd.func87 rfl (by decide) mix rfl rfl rfl (by simp) rfl ⟨t_b, t_b, trivial⟩ (by simp) t_10 (fun F n0 X w ρ hC hro => ?_)
  refine wsr ?_
  refine wp rfl hC t_k ?_
  refine WL_nil ?_
  refine W_seq ?_
  refine wsr ?_
  refine wp rfl hC t_k ?_
  refine WL_nil ?_
  refine W_blk ?_
  refine W_loopW (fun (ζ : Nat) => ⟨0, [(0, .i .i64 (x / 2 ^ ζ)), (1, .i .i64 n), (5, .i .i64 ζ)], []⟩) (fun ζ => ζ ≤ m) (fun ζ => m - ζ) (0) (by simp) (weak (fun k => k) (.cons rfl (congrArg (AV.i _) (by simp)) trivial (.cons rfl t_2y trivial (.cons rfl rfl trivial .nil))) .nil rfl rfl rfl) ?_
  intro k hR
  replace hR : k ≤ m := hR
  first | show W _ _ _ ⟨0, [(0, .i .i64 (x / 2 ^ k)), (1, .i .i64 n), (5, .i .i64 k)], []⟩ | skip
  have hr0 : 0 ≤ x / 2 ^ k := Int.ediv_nonneg hx.1 (Int.le_of_lt (Int.pow_pos (by decide)))
  have hr1 : x / 2 ^ k ≤ x := Int.ediv_le_self _ hx.1
  refine W_seq ?_
  refine wsr ?_
  refine wp rfl hC t_1 ?_
  refine wp rfl hC t_1 ?_
  refine wp rfl hC t_1e ?_
  refine WL_nil ?_
  refine W_cond rfl (by decide) (fun hc => ?_) (fun hc => ?_)
  ·
    replace hc := lss_t hc
    refine W_skip ?_
    refine W_seq ?_
    refine W_blk ?_
    refine W_region ?_
    refine wp rfl hC t_1 ?_
    refine wp rfl hC (oc_div hC (.inl rfl) (.tmp rfl) .cint t_j (r := x / 2 ^ (k + 1)) (by rw [i64_quo (by omega) (by omega) (by decide)]; exact div_pow_succ) rfl rfl) ?_
    refine wp rfl hC t_4 ?_
    refine WL_nil ?_
    refine W_region ?_
    refine wp rfl hC t_1 ?_
    refine wp rfl hC t_36 ?_
    refine wp rfl hC t_4 ?_
    refine WL_nil ?_
    exact ⟨(k + 1), (by omega), (weak (fun k => k) (.cons rfl t_2y trivial (.cons rfl t_2y trivial (.cons rfl t_2y trivial .nil))) .nil rfl rfl rfl), (by omega)⟩
  ·
    replace hc := lss_f hc
    obtain rfl : k = m := by omega
    refine W_exit ?_
    refine wsr ?_
    refine wp rfl hC t_1 ?_
    refine wp rfl hC t_4 ?_
    refine WL_nil ?_
    refine W_ret ?_
    exact fin0 (.cons (.tmp rfl) .nil) t_1u t_0
set_option maxRecDepth 20000 in
set_option maxHeartbeats 4000000 in
theorem drtimes_c (a b : List Nat) (la lb : Nat) (hla : a.length = la) (hlb : b.length = lb) (ha : B16 a) (hb : B16 b) (hs : la ≤ 1000) (ht : lb ≤ 1000) : FnC Tryd.prog 95 [] [.vs la (I .i64 (NI a)), .vs lb (I .i64 (NI b))] [] [(0, .row 3 1 (la + lb) (I .i64 (NI (digs (val a * val b) (la + lb)))))] (.row 0) := by
  refine FnC.introR (N0 := 0) (T := 79) (E := [(0, .vs la (I .i64 (NI a))), (1, .vs lb (I .i64 (NI b)))]) Tryd.func95 rfl (by decide) mix rfl rfl rfl (by simp) rfl ⟨t_b, t_b, trivial⟩ (by simp) (by
        intro S ha hr hw
        have s0 : S 0 := hw 0 t_17 t_5
        refine ⟨by first | exact inSL_I _ | simp [s0], fun k b hm => ?_⟩
        simp only [List.mem_cons, Prod.mk.injEq, List.not_mem_nil, or_false] at hm
        rcases hm with ⟨rfl, rfl⟩
        · exact ⟨s0, by first | exact inSL_I _ | simp [s0]⟩) (fun F n0 X w ρ hC hro => ?_)
  refine wsr ?_
  refine wp rfl hC t_v ?_
  refine WL_nil ?_
  refine wsr ?_
  refine wp rfl hC t_1 ?_
  refine wp rfl hC t_3z ?_
  refine wp rfl hC t_1 ?_
  refine wp rfl hC t_3z ?_
  refine wp rfl hC (oc_bin hC rfl (.tmp rfl) (.tmp rfl) (r := ((la + lb : Nat) : Int)) (nadd (by omega)) rfl rfl) ?_
  refine wp rfl hC (ox_make (n := la + lb) (cs' := I .i64 (NI (List.replicate (la + lb) 0))) hC (.tmp rfl) (.tmp rfl) t_26 t_26 Tryd.underlying77 cells_3 bytes_3 zero_3 (by decide) t_n (by omega) (by rw [← NI_zeros]; exact zeros_I) rfl rfl) ?_
  refine wp rfl hC t_4 ?_
  refine WL_nil ?_
  refine W_seq ?_
  refine wsr ?_
  refine wp rfl hC t_k ?_
  refine WL_nil ?_
  refine W_blk ?_
  refine W_loopW (fun (ζ : Nat × List Nat) => ⟨1, [(0, .vs la (I .i64 (NI a))), (1, .vs lb (I .i64 (NI b))), (5, .row 0), (6, .i .i64 ζ.1)], [(0, .row 3 1 (la + lb) (I .i64 (NI ζ.2)))]⟩) (fun ζ => ζ.1 ≤ la ∧ TimesI a b ζ.2 ζ.1) (fun ζ => la - ζ.1) (0, List.replicate (la + lb) 0) ⟨Nat.zero_le _, ⟨by simp [hla, hlb], by simp [val_zeros, val], fun x hx => by have := (List.mem_replicate.1 hx).2; omega⟩⟩ (weak (fun k => k) (.cons rfl t_30 t_0 (.cons rfl t_30 t_0 (.cons rfl t_5 t_6 (.cons rfl rfl trivial .nil)))) (.cons rfl t_g rfl t_0 .nil) rfl rfl rfl) ?_
  rintro ⟨i, out⟩ hR
  replace hR : i ≤ la ∧ TimesI a b out i := hR
  obtain ⟨hi, hT⟩ := hR
  first | show W _ _ _ ⟨1, [(0, .vs la (I .i64 (NI a))), (1, .vs lb (I .i64 (NI b))), (5, .row 0), (6, .i .i64 i)], [(0, .row 3 1 (la + lb) (I .i64 (NI out)))]⟩ | skip
  refine W_seq ?_
  refine wsr ?_
  refine wp rfl hC t_1 ?_
  refine wp rfl hC t_1 ?_
  refine wp rfl hC t_3z ?_
  refine wp rfl hC t_1e ?_
  refine WL_nil ?_
  refine W_cond rfl (by decide) (fun hc => ?_) (fun hc => ?_)
  ·
    replace hc := lss_t hc
    have hT := hT.j
    refine W_skip ?_
    refine W_seq ?_
    refine W_blk ?_
    refine W_seq ?_
    refine wsr ?_
    refine wp rfl hC t_k ?_
    refine WL_nil ?_
    refine W_blk ?_
    refine W_loopW (fun (ζ : Nat × List Nat) => ⟨1, [(0, .vs la (I .i64 (NI a))), (1, .vs lb (I .i64 (NI b))), (5, .row 0), (6, .i .i64 i), (7, .i .i64 ζ.1)], [(0, .row 3 1 (la + lb) (I .i64 (NI ζ.2)))]⟩) (fun ζ => ζ.1 ≤ lb ∧ TimesJ a b ζ.2 i ζ.1) (fun ζ => lb - ζ.1) (0, out) ⟨Nat.zero_le _, hT⟩ (weak (fun k => k) (.cons rfl t_30 t_0 (.cons rfl t_30 t_0 (.cons rfl t_5 t_6 (.cons rfl t_2y trivial (.cons rfl rfl trivial .nil))))) (.cons rfl t_g rfl t_0 .nil) rfl rfl rfl) ?_
    rintro ⟨j, out⟩ hR
    replace hR : j ≤ lb ∧ TimesJ a b out i j := hR
    obtain ⟨hj, hT⟩ := hR
    first | show W _ _ _ ⟨1, [(0, .vs la (I .i64 (NI a))), (1, .vs lb (I .i64 (NI b))), (5, .row 0), (6, .i .i64 i), (7, .i .i64 j)], [(0, .row 3 1 (la + lb) (I .i64 (NI out)))]⟩ | skip
    refine W_seq ?_
    refine wsr ?_
    refine wp rfl hC t_1 ?_
    refine wp rfl hC t_1 ?_
    refine wp rfl hC t_3z ?_
    refine wp rfl hC t_1e ?_
    refine WL_nil ?_
    refine W_cond rfl (by decide) (fun hc => ?_) (fun hc => ?_)
    ·
      replace hc := lss_t hc
      have hl := hT.len
      have h1 := getD_B16 ha i
      have h2 := getD_B16 hb j
      have h3 : a.getD i 0 * b.getD j 0 ≤ 65535 * 65535 := Nat.mul_le_mul (by omega) (by omega)
      have h4 := hT.small (i + j)
      rw [if_neg (by omega)] at h4
      refine W_skip ?_
      refine W_seq ?_
      refine W_blk ?_
      refine W_drawD hC ?_
      refine WD_cons (.plain rfl t_1) ?_
      refine WD_cons (.plain rfl t_1) ?_
      refine WD_cons (.plain rfl t_1) ?_
      refine WD_cons (.plain rfl (oc_bin hC rfl (.tmp rfl) (.tmp rfl) (r := ((i + j : Nat) : Int)) (nadd (by omega)) rfl rfl)) ?_
      refine WD_cons (.plain rfl t_1) ?_
      refine WD_cons (.plain rfl t_1) ?_
      refine WD_cons (.plain rfl t_1) ?_
      refine WD_cons (.plain rfl (oc_bin hC rfl (.tmp rfl) (.tmp rfl) (r := ((i + j : Nat) : Int)) (nadd (by omega)) rfl rfl)) ?_
      refine WD_cons (.plain rfl (ox_indexS hC (j := i + j) (.tmp rfl) (.tmp rfl) idx_77 rfl t_d t_33 t_2 rfl rfl)) ?_
      refine WD_cons (.plain rfl t_4h) ?_
      refine WD_cons (.plain rfl t_1) ?_
      refine WD_cons (.plain rfl t_1) ?_
      refine WD_cons (.plain rfl t_7f) ?_
      refine WD_cons (.plain rfl t_4h) ?_
      refine WD_cons (.plain rfl t_1) ?_
      refine WD_cons (.plain rfl t_1) ?_
      refine WD_cons (.plain rfl t_7f) ?_
      refine WD_cons (.plain rfl t_4h) ?_
      refine WD_cons (.plain rfl (oc_bin hC rfl (.tmp rfl) (.tmp rfl) (r := ((a.getD i 0 * b.getD j 0 : Nat) : Int)) (nmul (by omega)) rfl rfl)) ?_
      refine WD_cons (.plain rfl (oc_bin hC rfl (.tmp rfl) (.tmp rfl) (r := ((out.getD (i + j) 0 + a.getD i 0 * b.getD j 0 : Nat) : Int)) (nadd (by omega)) rfl rfl)) ?_
      refine WD_cons (.plain rfl (ox_indexS hC (j := i + j) (.tmp rfl) (.tmp rfl) idx_77 rfl t_d t_33 t_2 rfl rfl)) ?_
      refine WD_cons (.plain rfl (ox_store hC (.tmp rfl) (.tmp rfl) rfl shp_3 t_h t_18 (by show i + j + 1 ≤ (I .i64 (NI out)).length; rw [length_I, length_NI]; omega) (put_rowN (by omega)) t_f rfl)) ?_
      refine WD_nil t_x ?_
      refine W_region ?_
      refine wp rfl hC t_1 ?_
      refine wp rfl hC t_36 ?_
      refine wp rfl hC t_4 ?_
      refine WL_nil ?_
      exact ⟨(j + 1, _), ⟨by omega, hT.succ ha hb (by omega) (by omega)⟩, (weak (fun k => k) (.cons rfl t_30 t_0 (.cons rfl t_30 t_0 (.cons rfl t_5 t_6 (.cons rfl t_2y trivial (.cons rfl t_2y trivial .nil))))) (.cons rfl (renRow rfl rfl) rfl t_0 .nil) rfl rfl rfl), (by show lb - (j + 1) < lb - j; omega)⟩
    ·
      replace hc := lss_f hc
      have hj2 : j = b.length := by omega
      rw [hj2] at hT
      have hT := hT.k (by omega)
      refine W_exit ?_
      refine wsr ?_
      refine wp rfl hC t_k ?_
      refine WL_nil ?_
      refine W_blk ?_
      refine W_loopW (fun (ζ : Nat × List Nat) => ⟨1, [(0, .vs la (I .i64 (NI a))), (1, .vs lb (I .i64 (NI b))), (5, .row 0), (6, .i .i64 i), (8, .i .i64 ζ.1)], [(0, .row 3 1 (la + lb) (I .i64 (NI ζ.2)))]⟩) (fun ζ => ζ.1 + 1 ≤ la + lb ∧ TimesK a b ζ.2 i ζ.1) (fun ζ => la + lb - ζ.1) (0, out) ⟨by omega, hT⟩ (weak (fun k => k) (.cons rfl t_30 t_0 (.cons rfl t_30 t_0 (.cons rfl t_5 t_6 (.cons rfl t_2y trivial (.cons rfl rfl trivial .nil))))) (.cons rfl t_g rfl t_0 .nil) rfl rfl rfl) ?_
      rintro ⟨k, out⟩ hR
      replace hR : k + 1 ≤ la + lb ∧ TimesK a b out i k := hR
      obtain ⟨hk, hT⟩ := hR
      first | show W _ _ _ ⟨1, [(0, .vs la (I .i64 (NI a))), (1, .vs lb (I .i64 (NI b))), (5, .row 0), (6, .i .i64 i), (8, .i .i64 k)], [(0, .row 3 1 (la + lb) (I .i64 (NI out)))]⟩ | skip
      refine W_seq ?_
      refine wsr ?_
      refine wp rfl hC t_1 ?_
      refine wp rfl hC t_36 ?_
      refine wp rfl hC t_1 ?_
      refine wp rfl hC t_3z ?_
      refine wp rfl hC t_1e ?_
      refine WL_nil ?_
      refine W_cond rfl (by decide) (fun hc => ?_) (fun hc => ?_)
      ·
        replace hc := lss_t hc
        have hl := hT.len
        have h1 := hT.small k
        rw [if_neg (by omega), if_pos rfl] at h1
        have h2 := hT.small (k + 1)
        rw [if_neg (by omega), if_neg (by omega)] at h2
        refine W_skip ?_
        refine W_seq ?_
        refine W_blk ?_
        refine W_seq ?_
        refine W_drawD hC ?_
        refine WD_cons (.plain rfl t_1) ?_
        refine WD_cons (.plain rfl t_1) ?_
        refine WD_cons (.plain rfl (oc_bin hC rfl (.tmp rfl) .cint (r := ((k + 1 : Nat) : Int)) (nadd (x := k) (y := 1) (by omega)) rfl rfl)) ?_
        refine WD_cons (.plain rfl t_1) ?_
        refine WD_cons (.plain rfl t_1) ?_
        refine WD_cons (.plain rfl (oc_bin hC rfl (.tmp rfl) .cint (r := ((k + 1 : Nat) : Int)) (nadd (x := k) (y := 1) (by omega)) rfl rfl)) ?_
        refine WD_cons (.plain rfl (ox_indexS hC (j := k + 1) (.tmp rfl) (.tmp rfl) idx_77 rfl t_d t_33 t_2 rfl rfl)) ?_
        refine WD_cons (.plain rfl t_4h) ?_
        refine WD_cons (.plain rfl t_1) ?_
        refine WD_cons (.plain rfl t_1) ?_
        refine WD_cons (.plain rfl t_6g) ?_
        refine WD_cons (.plain rfl t_4h) ?_
        refine WD_cons (.plain rfl (oc_div hC (.inl rfl) (.tmp rfl) .cint t_j (r := ((out.getD k 0 / 65536 : Nat) : Int)) (nquo (y := 65536) (by omega) (by decide)) rfl rfl)) ?_
        refine WD_cons (.plain rfl (oc_bin hC rfl (.tmp rfl) (.tmp rfl) (r := ((out.getD (k + 1) 0 + out.getD k 0 / 65536 : Nat) : Int)) (nadd (by omega)) rfl rfl)) ?_
        refine WD_cons (.plain rfl (ox_indexS hC (j := k + 1) (.tmp rfl) (.tmp rfl) idx_77 rfl t_d t_33 t_2 rfl rfl)) ?_
        refine WD_cons (.plain rfl (ox_store hC (.tmp rfl) (.tmp rfl) rfl shp_3 t_h t_18 (by show k + 1 + 1 ≤ (I .i64 (NI out)).length; rw [length_I, length_NI]; omega) (put_rowN (by omega)) t_f rfl)) ?_
        refine WD_nil t_x ?_
        refine W_region ?_
        refine wp rfl hC t_1 ?_
        refine wp rfl hC t_1 ?_
        refine wp rfl hC t_1 ?_
        refine wp rfl hC t_1 ?_
        refine wp rfl hC t_6g ?_
        refine wp rfl hC (oc_load hC (.tmp rfl) t_3 shp_3 (by exact (unit_NI (by rw [List.length_set]; omega))) rfl rfl) ?_
        refine wp rfl hC (oc_div hC (.inr rfl) (.tmp rfl) .cint t_j (r := ((out.getD k 0 % 65536 : Nat) : Int)) (by rw [Go.Sk.getD_set_ne (by omega)]; exact nrem (y := 65536)) rfl rfl) ?_
        refine wp rfl hC t_6g ?_
        refine wp rfl hC (ox_store hC (.tmp rfl) (.tmp rfl) rfl shp_3 t_h t_18 (by show k + 1 ≤ (I .i64 (NI (out.set _ _))).length; rw [length_I, length_NI, List.length_set]; omega) (put_rowN (by rw [List.length_set]; omega)) t_f rfl) ?_
        refine WL_nil ?_
        refine W_region ?_
        refine wp rfl hC t_1 ?_
        refine wp rfl hC t_36 ?_
        refine wp rfl hC t_4 ?_
        refine WL_nil ?_
        exact ⟨(k + 1, _), ⟨by omega, hT.succ (by omega)⟩, (weak (fun k => k) (.cons rfl t_30 t_0 (.cons rfl t_30 t_0 (.cons rfl t_5 t_6 (.cons rfl t_2y trivial (.cons rfl t_2y trivial .nil))))) (.cons rfl (renRow rfl rfl) rfl t_0 .nil) rfl rfl rfl), (by show la + lb - (k + 1) < la + lb - k; omega)⟩
      ·
        replace hc := lss_f hc
        have hl := hT.len
        refine W_exit ?_
        refine W_region ?_
        refine wp rfl hC t_1 ?_
        refine wp rfl hC t_36 ?_
        refine wp rfl hC t_4 ?_
        refine WL_nil ?_
        exact ⟨(i + 1, out), ⟨by omega, hT.i ha hb (by omega) (by omega)⟩, (weak (fun k => k) (.cons rfl t_30 t_0 (.cons rfl t_30 t_0 (.cons rfl t_5 t_6 (.cons rfl t_2y trivial .nil)))) (.cons rfl t_g rfl t_0 .nil) rfl rfl rfl), (by show la - (i + 1) < la - i; omega)⟩
  ·
    replace hc := lss_f hc
    have hi2 : i = a.length := by omega
    rw [hi2] at hT
    have he := hT.end
    rw [hla, hlb] at he
    subst he
    refine W_exit ?_
    refine wsr ?_
    refine wp rfl hC t_1 ?_
    refine wp rfl hC t_4 ?_
    refine WL_nil ?_
    refine W_ret ?_
    exact fin1 (.cons (.tmp rfl) .nil) rfl rfl t_0
set_option maxRecDepth 20000 in
set_option maxHeartbeats 4000000 in
theorem rabove_c (x y m n : Nat) (hx : x < 65536 ^ m) (hy : y < 65536 ^ n) (hm : m ≤ 1000) (hn : n ≤ 1000) : FnC Tryd.prog 96 [] [.vs m (I .i64 (NI (digs x m))), .vs n (I .i64 (NI (digs y n)))] [] [] (.b (decide (y < x))) := by
  have hlx := length_digs x m
  have hly := length_digs y n
  have hx2 : x / 65536 ^ (max m n) = 0 := Nat.div_eq_of_lt (Nat.lt_of_lt_of_le hx (Nat.pow_le_pow_right (by decide) (Nat.le_max_left _ _)))
  have hy2 : y / 65536 ^ (max m n) = 0 := Nat.div_eq_of_lt (Nat.lt_of_lt_of_le hy (Nat.pow_le_pow_right (by decide) (Nat.le_max_right _ _)))
  refine FnC.introR (N0 := 0) (T := 40) (E := [(0, .vs m (I .i64 (NI (digs x m)))), (1, .vs n (I .i64 (NI (digs y n))))]) Tryd.func96 rfl (by decide) mix rfl rfl rfl (by simp) rfl ⟨t_b, t_b, trivial⟩ (by simp) t_10 (fun F n0 X w ρ hC hro => ?_)
  refine wsr ?_
  refine wp rfl hC t_1d ?_
  refine WL_nil ?_
  refine W_seq ?_
  refine wsr ?_
  refine wp rfl hC t_1 ?_
  refine wp rfl hC t_3z ?_
  refine wp rfl hC t_1 ?_
  refine wp rfl hC t_3z ?_
  refine wp rfl hC (ox_max hC (.tmp rfl) (.tmp rfl) (r := ((max m n : Nat) : Int)) (by omega) rfl rfl) ?_
  refine wp rfl hC t_40 ?_
  refine wp rfl hC t_4 ?_
  refine WL_nil ?_
  refine W_blk ?_
  refine W_loopW (fun (ζ : Nat) => ⟨0, [(0, .vs m (I .i64 (NI (digs x m)))), (1, .vs n (I .i64 (NI (digs y n)))), (5, .i .i64 ((ζ : Int) - 1))], []⟩) (fun ζ => ζ ≤ max m n ∧ x / 65536 ^ ζ = y / 65536 ^ ζ) (fun ζ => ζ) (max m n) ⟨Nat.le_refl _, by rw [hx2, hy2]⟩ (weak (fun k => k) (.cons rfl t_30 t_0 (.cons rfl t_30 t_0 (.cons rfl rfl trivial .nil))) .nil rfl rfl rfl) ?_
  intro c hR
  replace hR : c ≤ max m n ∧ x / 65536 ^ c = y / 65536 ^ c := hR
  obtain ⟨hc0, hxy⟩ := hR
  first | show W _ _ _ ⟨0, [(0, .vs m (I .i64 (NI (digs x m)))), (1, .vs n (I .i64 (NI (digs y n)))), (5, .i .i64 ((c : Int) - 1))], []⟩ | skip
  refine W_seq ?_
  refine wsr ?_
  refine wp rfl hC t_1 ?_
  refine wp rfl hC t_11 ?_
  refine WL_nil ?_
  refine W_cond rfl (by decide) (fun hc => ?_) (fun hc => ?_)
  ·
    replace hc := geq_t hc
    have hc1 : c - 1 + 1 = c := by omega
    have hxy2 : x / 65536 ^ (c - 1 + 1) = y / 65536 ^ (c - 1 + 1) := by rw [hc1]; exact hxy
    refine W_skip ?_
    refine W_seq ?_
    refine W_blk ?_
    refine wsr ?_
    refine wp rfl hC t_k ?_
    refine WL_nil ?_
    refine wsr ?_
    refine wp rfl hC t_k ?_
    refine WL_nil ?_
    refine W_seq ?_
    refine wsr ?_
    refine wp rfl hC t_1 ?_
    refine wp rfl hC t_1 ?_
    refine wp rfl hC t_3z ?_
    refine wp rfl hC t_1e ?_
    refine WL_nil ?_
    refine W_join (fun (ζ : Unit) => ⟨0, [(0, .vs m (I .i64 (NI (digs x m)))), (1, .vs n (I .i64 (NI (digs y n)))), (5, .i .i64 ((c : Int) - 1)), (6, .i .i64 ((x / 65536 ^ (c - 1) % 65536 : Nat) : Int)), (7, .i .i64 0)], []⟩) (fun ζ => True) ?_ ?_
    ·
      refine W_cond rfl (by decide) (fun hc => ?_) (fun hc => ?_)
      ·
        replace hc := lss_t hc
        refine W_region ?_
        refine wp rfl hC t_1 ?_
        refine wp rfl hC t_1 ?_
        refine wp rfl hC (ox_indexS hC (j := c - 1) (.tmp rfl) (.tmp rfl) idx_77 t_w t_d t_33 t_2 rfl rfl) ?_
        refine wp rfl hC t_4h ?_
        refine wp rfl hC t_4 ?_
        refine WL_nil ?_
        exact ⟨(), trivial, (weak (fun k => k) (.cons rfl t_30 t_0 (.cons rfl t_30 t_0 (.cons rfl t_2y trivial (.cons rfl (congrArg (AV.i _) (by rw [← digit hx])) trivial (.cons rfl t_2y trivial .nil))))) .nil rfl rfl rfl)⟩
      ·
        replace hc := lss_f hc
        refine W_skip ?_
        exact ⟨(), trivial, (weak (fun k => k) (.cons rfl t_30 t_0 (.cons rfl t_30 t_0 (.cons rfl t_2y trivial (.cons rfl (congrArg (AV.i _) (by rw [← digit hx, digs_getD_out (by omega)]; rfl)) trivial (.cons rfl t_2y trivial .nil))))) .nil rfl rfl rfl)⟩
    ·
      rintro ⟨⟩ hR
      first | show W _ _ _ ⟨0, [(0, .vs m (I .i64 (NI (digs x m)))), (1, .vs n (I .i64 (NI (digs y n)))), (5, .i .i64 ((c : Int) - 1)), (6, .i .i64 ((x / 65536 ^ (c - 1) % 65536 : Nat) : Int)), (7, .i .i64 0)], []⟩ | skip
      refine W_seq ?_
      refine wsr ?_
      refine wp rfl hC t_1 ?_
      refine wp rfl hC t_1 ?_
      refine wp rfl hC t_3z ?_
      refine wp rfl hC t_1e ?_
      refine WL_nil ?_
      refine W_join (fun (ζ : Unit) => ⟨0, [(0, .vs m (I .i64 (NI (digs x m)))), (1, .vs n (I .i64 (NI (digs y n)))), (5, .i .i64 ((c : Int) - 1)), (6, .i .i64 ((x / 65536 ^ (c - 1) % 65536 : Nat) : Int)), (7, .i .i64 ((y / 65536 ^ (c - 1) % 65536 : Nat) : Int))], []⟩) (fun ζ => True) ?_ ?_
      ·
        refine W_cond rfl (by decide) (fun hc => ?_) (fun hc => ?_)
        ·
          replace hc := lss_t hc
          refine W_region ?_
          refine wp rfl hC t_1 ?_
          refine wp rfl hC t_1 ?_
          refine wp rfl hC (ox_indexS hC (j := c - 1) (.tmp rfl) (.tmp rfl) idx_77 t_w t_d t_33 t_2 rfl rfl) ?_
          refine wp rfl hC t_4h ?_
          refine wp rfl hC t_4 ?_
          refine WL_nil ?_
          exact ⟨(), trivial, (weak (fun k => k) (.cons rfl t_30 t_0 (.cons rfl t_30 t_0 (.cons rfl t_2y trivial (.cons rfl t_2y trivial (.cons rfl (congrArg (AV.i _) (by rw [← digit hy])) trivial .nil))))) .nil rfl rfl rfl)⟩
        ·
          replace hc := lss_f hc
          refine W_skip ?_
          exact ⟨(), trivial, (weak (fun k => k) (.cons rfl t_30 t_0 (.cons rfl t_30 t_0 (.cons rfl t_2y trivial (.cons rfl t_2y trivial (.cons rfl (congrArg (AV.i _) (by rw [← digit hy, digs_getD_out (by omega)]; rfl)) trivial .nil))))) .nil rfl rfl rfl)⟩
      ·
        rintro ⟨⟩ hR
        first | show W _ _ _ ⟨0, [(0, .vs m (I .i64 (NI (digs x m)))), (1, .vs n (I .i64 (NI (digs y n)))), (5, .i .i64 ((c : Int) - 1)), (6, .i .i64 ((x / 65536 ^ (c - 1) % 65536 : Nat) : Int)), (7, .i .i64 ((y / 65536 ^ (c - 1) % 65536 : Nat) : Int))], []⟩ | skip
        refine wsr ?_
        refine wp rfl hC t_1 ?_
        refine wp rfl hC t_1 ?_
        refine wp rfl hC t_1e ?_
        refine WL_nil ?_
        refine W_cond rfl (by decide) (fun hc => ?_) (fun hc => ?_)
        ·
          replace hc := neq_t hc
          refine wsr ?_
          refine wp rfl hC t_1 ?_
          refine wp rfl hC t_1 ?_
          refine WL_cons hC.fn (.plain rfl (ox_cmp hC rfl (.tmp rfl) (.tmp rfl) (r := decide (y < x)) (by
            by_cases hlt : x / 65536 ^ (c - 1) % 65536 < y / 65536 ^ (c - 1) % 65536
            · have := above_down hxy2 hlt
              simp only [cmpI]; rw [decide_eq_decide]; omega
            · have := above_down hxy2.symm (by omega : y / 65536 ^ (c - 1) % 65536 < x / 65536 ^ (c - 1) % 65536)
              simp only [cmpI]; rw [decide_eq_decide]; omega) rfl rfl)) ?_
          refine wp rfl hC t_4 ?_
          refine WL_nil ?_
          refine W_ret ?_
          exact fin0 (.cons (.tmp rfl) .nil) t_1u t_0
        ·
          replace hc := neq_f hc
          have hne : x / 65536 ^ (c - 1) % 65536 = y / 65536 ^ (c - 1) % 65536 := by omega
          refine W_skip ?_
          refine W_region ?_
          refine wp rfl hC t_1 ?_
          refine wp rfl hC t_40 ?_
          refine wp rfl hC t_4 ?_
          refine WL_nil ?_
          exact ⟨(c - 1), ⟨by omega, same_down hxy2 hne⟩, (weak (fun k => k) (.cons rfl t_30 t_0 (.cons rfl t_30 t_0 (.cons rfl t_2y trivial .nil))) .nil rfl rfl rfl), (by show c - 1 < c; omega)⟩
  ·
    replace hc := geq_f hc
    obtain rfl : c = 0 := by omega
    simp only [Nat.pow_zero, Nat.div_one] at hxy
    refine W_exit ?_
    refine wsr ?_
    refine wp rfl hC t_1d ?_
    rw [show (AV.b false) = .b (decide (y < x)) by rw [hxy]; simp]
    refine WL_nil ?_
    refine W_ret ?_
    exact fin0 (.cons (.tmp rfl) .nil) t_1u t_0
set_option maxRecDepth 20000 in
set_option maxHeartbeats 4000000 in
theorem rroot_c (p power : Nat) (hp : p < 65536) (hw : 2 ≤ power ∧ power ≤ 3) : FnC Tryd.prog 84 [] [.i .i64 p, .i .i64 power] [] [] (.i .i64 ((rootM p power : Nat) : Int)) := by
  refine FnC.introR (N0 := 0) (T := 68) (E := [(0, .i .i64 p), (1, .i .i64 power)]) Tryd.func84 rfl (by decide) mix rfl rfl rfl (by simp) rfl ⟨t_b, t_b, trivial⟩ (by simp) t_10 (fun F n0 X w ρ hC hro => ?_)
  refine wsr ?_
  refine wp rfl hC t_k ?_
  refine WL_nil ?_
  refine wsr ?_
  refine wp rfl hC t_k ?_
  refine WL_nil ?_
  refine W_seq ?_
  refine wsr ?_
  refine wp rfl hC t_k ?_
  refine WL_nil ?_
  refine W_blk ?_
  refine W_loopW (fun (ζ : Nat) => ⟨0, [(0, .i .i64 p), (1, .i .i64 power), (5, .i .i64 ((rootN p power ζ : Nat) : Int)), (6, .i .i64 (36 - (ζ : Int)))], []⟩) (fun ζ => ζ ≤ 37) (fun ζ => 37 - ζ) (0) (by simp) (weak (fun k => k) (.cons rfl t_2y trivial (.cons rfl t_2y trivial (.cons rfl (congrArg (AV.i _) (congrArg _ rootN_zero)) trivial (.cons rfl rfl trivial .nil)))) .nil rfl rfl rfl) ?_
  intro c hR
  replace hR : c ≤ 37 := hR
  first | show W _ _ _ ⟨0, [(0, .i .i64 p), (1, .i .i64 power), (5, .i .i64 ((rootN p power c : Nat) : Int)), (6, .i .i64 (36 - (c : Int)))], []⟩ | skip
  obtain ⟨q, hq1, hq2⟩ := rootN_lt p power c hR
  refine W_seq ?_
  refine wsr ?_
  refine wp rfl hC t_1 ?_
  refine wp rfl hC t_11 ?_
  refine WL_nil ?_
  refine W_cond rfl (by decide) (fun hc => ?_) (fun hc => ?_)
  ·
    replace hc := geq_t hc
    have hbit : 2 ^ (36 - c) ≤ 2 ^ 36 := Nat.pow_le_pow_right (by decide) (by omega)
    have hX : (rootN p power c + 2 ^ (36 - c)) < 65536 ^ 3 := by omega
    refine W_skip ?_
    refine W_seq ?_
    refine W_blk ?_
    refine wsr ?_
    refine wp rfl hC t_k ?_
    refine WL_nil ?_
    refine W_seq ?_
    refine wsr ?_
    refine wp rfl hC t_k ?_
    refine WL_nil ?_
    refine W_blk ?_
    refine W_loopW (fun (ζ : Nat) => ⟨0, [(0, .i .i64 p), (1, .i .i64 power), (5, .i .i64 ((rootN p power c : Nat) : Int)), (6, .i .i64 (36 - (c : Int))), (7, .i .i64 ((2 ^ ζ : Nat) : Int)), (8, .i .i64 ζ)], []⟩) (fun ζ => ζ ≤ 36 - c) (fun ζ => 36 - c - ζ) (0) (Nat.zero_le _) (weak (fun k => k) (.cons rfl t_2y trivial (.cons rfl t_2y trivial (.cons rfl t_2y trivial (.cons rfl t_2y trivial (.cons rfl rfl trivial (.cons rfl rfl trivial .nil)))))) .nil rfl rfl rfl) ?_
    intro k hR
    replace hR : k ≤ 36 - c := hR
    first | show W _ _ _ ⟨0, [(0, .i .i64 p), (1, .i .i64 power), (5, .i .i64 ((rootN p power c : Nat) : Int)), (6, .i .i64 (36 - (c : Int))), (7, .i .i64 ((2 ^ k : Nat) : Int)), (8, .i .i64 k)], []⟩ | skip
    have h2k : 2 ^ k ≤ 2 ^ 36 := Nat.pow_le_pow_right (by decide) (by omega)
    refine W_seq ?_
    refine wsr ?_
    refine wp rfl hC t_1 ?_
    refine wp rfl hC t_1 ?_
    refine wp rfl hC t_1e ?_
    refine WL_nil ?_
    refine W_cond rfl (by decide) (fun hc => ?_) (fun hc => ?_)
    ·
      replace hc := lss_t hc
      refine W_skip ?_
      refine W_seq ?_
      refine W_blk ?_
      refine W_region ?_
      refine wp rfl hC t_1 ?_
      refine wp rfl hC (oc_bin hC rfl (.tmp rfl) .cint (r := ((2 ^ (k + 1) : Nat) : Int)) (by rw [Nat.pow_succ]; exact nmul (y := 2) (by omega)) rfl rfl) ?_
      refine wp rfl hC t_4 ?_
      refine WL_nil ?_
      refine W_region ?_
      refine wp rfl hC t_1 ?_
      refine wp rfl hC t_36 ?_
      refine wp rfl hC t_4 ?_
      refine WL_nil ?_
      exact ⟨(k + 1), (by omega), (weak (fun k => k) (.cons rfl t_2y trivial (.cons rfl t_2y trivial (.cons rfl t_2y trivial (.cons rfl t_2y trivial (.cons rfl t_2y trivial (.cons rfl t_2y trivial .nil)))))) .nil rfl rfl rfl), (by omega)⟩
    ·
      replace hc := lss_f hc
      obtain rfl : k = 36 - c := by omega
      refine W_exit ?_
      refine wsr ?_
      refine wp rfl hC t_1 ?_
      refine wp rfl hC t_1 ?_
      refine wp rfl hC (oc_bin hC rfl (.tmp rfl) (.tmp rfl) (r := (((rootN p power c + 2 ^ (36 - c)) : Nat) : Int)) (nadd (by omega)) rfl rfl) ?_
      refine wp rfl hC t_4 ?_
      refine WL_nil ?_
      refine wsr ?_
      refine wp rfl hC t_1 ?_
      refine wp rfl hC (oc_div hC (.inr rfl) (.tmp rfl) .cint t_j (r := (((rootN p power c + 2 ^ (36 - c)) % 65536 : Nat) : Int)) (nrem (y := 65536)) rfl rfl) ?_
      refine wp rfl hC t_1 ?_
      refine wp rfl hC t_5z ?_
      refine wp rfl hC (oc_div hC (.inr rfl) (.tmp rfl) .cint t_j (r := (((rootN p power c + 2 ^ (36 - c)) / 65536 % 65536 : Nat) : Int)) (nrem (y := 65536)) rfl rfl) ?_
      refine wp rfl hC t_1 ?_
      refine wp rfl hC t_5z ?_
      refine wp rfl hC (oc_div hC (.inl rfl) (.tmp rfl) .cint t_j (r := (((rootN p power c + 2 ^ (36 - c)) / 65536 / 65536 : Nat) : Int)) (nquo (y := 65536) (by omega) (by decide)) rfl rfl) ?_
      refine wp rfl hC (ox_lit hC (.cons (.tmp rfl) (.cons (.tmp rfl) (.cons (.tmp rfl) .nil))) Tryd.underlying77 cells_3 zero_3 rfl (by decide) rfl rfl t_5 rfl rfl) ?_
      refine wp rfl hC t_4 ?_
      refine WL_nil ?_
      refine wsr ?_
      refine wp rfl hC t_1 ?_
      refine wp rfl hC t_4 ?_
      refine WL_nil ?_
      refine wsr ?_
      refine wp rfl hC (ox_litRI (k := .i64) (ws := []) hC .nil Tryd.underlying77 cells_3 zero_3 rfl (by decide) rfl rfl t_5 rfl rfl rfl) ?_
      refine wp rfl hC t_4 ?_
      refine WL_nil ?_
      refine W_seq ?_
      refine wsr ?_
      refine wp rfl hC t_k ?_
      refine WL_nil ?_
      refine W_blk ?_
      refine W_loopW (fun (ζ : Nat) => ⟨1, [(0, .i .i64 p), (1, .i .i64 power), (5, .i .i64 ((rootN p power c : Nat) : Int)), (6, .i .i64 (36 - (c : Int))), (9, .i .i64 (((rootN p power c + 2 ^ (36 - c)) : Nat) : Int)), (10, .vs 3 (I .i64 (NI (digs (rootN p power c + 2 ^ (36 - c)) 3)))), (11, .vs (3 * ζ) (I .i64 (NI (digs ((rootN p power c + 2 ^ (36 - c)) ^ ζ) (3 * ζ))))), (12, .row 0), (13, .i .i64 ζ)], [(0, .row 3 1 0 (I .i64 []))]⟩) (fun ζ => 1 ≤ ζ ∧ ζ ≤ power) (fun ζ => power - ζ) (1) (by omega) (weak (fun k => k) (.cons rfl t_2y trivial (.cons rfl t_2y trivial (.cons rfl t_2y trivial (.cons rfl t_2y trivial (.cons rfl t_2y trivial (.cons rfl (ren_vsI.trans (congrArg (AV.vs 3) (by rw [digs3 hX]; rfl))) t_0 (.cons rfl (ren_vsI.trans (by rw [Nat.pow_one, Nat.mul_one, digs3 hX]; rfl)) t_0 (.cons rfl t_5 t_6 (.cons rfl rfl trivial .nil))))))))) (.cons rfl rfl rfl t_0 .nil) rfl rfl rfl) ?_
      intro i hR
      replace hR : 1 ≤ i ∧ i ≤ power := hR
      first | show W _ _ _ ⟨1, [(0, .i .i64 p), (1, .i .i64 power), (5, .i .i64 ((rootN p power c : Nat) : Int)), (6, .i .i64 (36 - (c : Int))), (9, .i .i64 (((rootN p power c + 2 ^ (36 - c)) : Nat) : Int)), (10, .vs 3 (I .i64 (NI (digs (rootN p power c + 2 ^ (36 - c)) 3)))), (11, .vs (3 * i) (I .i64 (NI (digs ((rootN p power c + 2 ^ (36 - c)) ^ i) (3 * i))))), (12, .row 0), (13, .i .i64 i)], [(0, .row 3 1 0 (I .i64 []))]⟩ | skip
      refine W_seq ?_
      refine wsr ?_
      refine wp rfl hC t_1 ?_
      refine wp rfl hC t_1 ?_
      refine wp rfl hC t_1e ?_
      refine WL_nil ?_
      refine W_cond rfl (by decide) (fun hc => ?_) (fun hc => ?_)
      ·
        replace hc := lss_t hc
        refine W_skip ?_
        refine W_seq ?_
        refine W_blk ?_
        refine W_region ?_
        refine wp rfl hC t_1 ?_
        refine wp rfl hC t_1 ?_
        refine wp rfl hC (oc_callN hC (.cons (.tmp rfl) (.cons (.tmp rfl) .nil)) (.cons1 t_31 (.cons1 t_31 (.same t_0))) (drtimes_c _ _ _ _ (length_digs _ _) (length_digs _ _) (B16_digs _ _) (B16_digs _ _) (by omega) (by omega)) glob_nil t_0 rfl t_q rfl rfl) ?_
        refine wp rfl hC t_4 ?_
        refine WL_nil ?_
        refine W_region ?_
        refine wp rfl hC t_1 ?_
        refine wp rfl hC t_36 ?_
        refine wp rfl hC t_4 ?_
        refine WL_nil ?_
        exact ⟨(i + 1), (by omega), (Weak.trans (weak_vs (t := 11) rfl rfl (.here rfl) (inSL_I _)) (weak (fun k => k) (.cons rfl t_2y trivial (.cons rfl t_2y trivial (.cons rfl t_2y trivial (.cons rfl t_2y trivial (.cons rfl t_2y trivial (.cons rfl t_30 t_0 (.cons rfl (ren_vsI.trans (by rw [val_digs _ _ (pow_fits hX (by omega)), val_digs _ _ hX, ← Nat.pow_succ]; rfl)) t_0 (.cons rfl t_5 t_6 (.cons rfl t_2y trivial .nil))))))))) (.cons rfl t_g rfl t_0 .nil) rfl rfl rfl)), (by omega)⟩
      ·
        replace hc := lss_f hc
        obtain rfl : power = i := by omega
        refine W_exit ?_
        refine W_seq ?_
        refine wsr ?_
        refine wp rfl hC t_k ?_
        refine WL_nil ?_
        refine W_blk ?_
        refine W_loopW (fun (ζ : Nat) => ⟨1, [(0, .i .i64 p), (1, .i .i64 power), (5, .i .i64 ((rootN p power c : Nat) : Int)), (6, .i .i64 (36 - (c : Int))), (9, .i .i64 (((rootN p power c + 2 ^ (36 - c)) : Nat) : Int)), (11, .vs (3 * power) (I .i64 (NI (digs ((rootN p power c + 2 ^ (36 - c)) ^ power) (3 * power))))), (12, .row 0), (14, .i .i64 ζ)], [(0, .row 3 1 ζ (I .i64 (List.replicate ζ 0)))]⟩) (fun ζ => ζ ≤ 2 * power) (fun ζ => 2 * power - ζ) (0) (Nat.zero_le _) (weak (fun k => k) (.cons rfl t_2y trivial (.cons rfl t_2y trivial (.cons rfl t_2y trivial (.cons rfl t_2y trivial (.cons rfl t_2y trivial (.cons rfl t_30 t_0 (.cons rfl t_5 t_6 (.cons rfl rfl trivial .nil)))))))) (.cons rfl rfl rfl t_0 .nil) rfl rfl rfl) ?_
        intro j hR
        replace hR : j ≤ 2 * power := hR
        first | show W _ _ _ ⟨1, [(0, .i .i64 p), (1, .i .i64 power), (5, .i .i64 ((rootN p power c : Nat) : Int)), (6, .i .i64 (36 - (c : Int))), (9, .i .i64 (((rootN p power c + 2 ^ (36 - c)) : Nat) : Int)), (11, .vs (3 * power) (I .i64 (NI (digs ((rootN p power c + 2 ^ (36 - c)) ^ power) (3 * power))))), (12, .row 0), (14, .i .i64 j)], [(0, .row 3 1 j (I .i64 (List.replicate j 0)))]⟩ | skip
        refine W_seq ?_
        refine wsr ?_
        refine wp rfl hC t_1 ?_
        refine wp rfl hC t_1 ?_
        refine wp rfl hC t_43 ?_
        refine wp rfl hC t_1e ?_
        refine WL_nil ?_
        refine W_cond rfl (by decide) (fun hc => ?_) (fun hc => ?_)
        ·
          replace hc := lss_t hc
          refine W_skip ?_
          refine W_seq ?_
          refine W_blk ?_
          refine W_region ?_
          refine wp rfl hC t_1 ?_
          refine wp rfl hC t_53 ?_
          refine wp rfl hC t_6v ?_
          refine wp rfl hC t_4 ?_
          refine WL_nil ?_
          refine W_region ?_
          refine wp rfl hC t_1 ?_
          refine wp rfl hC t_36 ?_
          refine wp rfl hC t_4 ?_
          refine WL_nil ?_
          exact ⟨(j + 1), (by omega), (weak (fun k => bif Nat.beq k 0 then 1 else k) (.cons rfl t_2y trivial (.cons rfl t_2y trivial (.cons rfl t_2y trivial (.cons rfl t_2y trivial (.cons rfl t_2y trivial (.cons rfl t_30 t_0 (.cons rfl t_5 t_6 (.cons rfl t_2y trivial .nil)))))))) (.cons rfl (renRow rfl List.replicate_succ') rfl t_0 .nil) rfl rfl rfl), (by omega)⟩
        ·
          replace hc := lss_f hc
          obtain rfl : j = 2 * power := by omega
          refine W_exit ?_
          refine wsr ?_
          refine wp rfl hC t_1 ?_
          refine wp rfl hC t_1 ?_
          refine wp rfl hC t_42 ?_
          refine wp rfl hC (ox_append (cs' := I .i64 (NI (digs (p * 65536 ^ (2 * power)) (2 * power + 1)))) hC (.tmp rfl) (.tmp rfl) t_35 t_a t_r Tryd.underlying77 cells_3 bytes_3 zero_3 rfl (by decide) t_15 t_t t_16 (app_1.trans (by rw [digs_zeros hp]; simp [List.map_append])) t_n (by omega) rfl rfl) ?_
          refine wp rfl hC t_4 ?_
          refine WL_nil ?_
          refine wsr ?_
          refine wp rfl hC t_1 ?_
          refine wp rfl hC t_1 ?_
          refine wp rfl hC (oc_call hC (.cons (.tmp rfl) (.cons (.tmp rfl) .nil)) (.cons1 t_31 (.cons1 t_31 (.same t_0))) (rabove_c _ _ _ _ (pow_fits hX (by omega)) (sum_fits hp) (by omega) (by omega)) glob_nil t_0 t_8 rfl rfl) ?_
          refine wp rfl hC t_1m ?_
          refine WL_nil ?_
          refine W_join (fun (ζ : Unit) => ⟨0, [(0, .i .i64 p), (1, .i .i64 power), (5, .i .i64 ((rootN p power (c + 1) : Nat) : Int)), (6, .i .i64 (36 - (c : Int)))], []⟩) (fun ζ => True) ?_ ?_
          ·
            refine W_cond rfl (by decide) (fun hc => ?_) (fun hc => ?_)
            ·
              have hab : ¬ p * 65536 ^ (2 * power) < (rootN p power c + 2 ^ (36 - c)) ^ power := by simpa using hc
              refine W_region ?_
              refine wp rfl hC t_1 ?_
              refine wp rfl hC t_4 ?_
              refine WL_nil ?_
              exact ⟨(), trivial, (weak (fun k => k) (.cons rfl t_2y trivial (.cons rfl t_2y trivial (.cons rfl (congrArg (AV.i _) (congrArg _ (rootN_up hab))) trivial (.cons rfl t_2y trivial .nil)))) .nil rfl rfl rfl)⟩
            ·
              have hab : p * 65536 ^ (2 * power) < (rootN p power c + 2 ^ (36 - c)) ^ power := by simpa using hc
              refine W_skip ?_
              exact ⟨(), trivial, (weak (fun k => k) (.cons rfl t_2y trivial (.cons rfl t_2y trivial (.cons rfl (congrArg (AV.i _) (congrArg _ (rootN_same hab))) trivial (.cons rfl t_2y trivial .nil)))) .nil rfl rfl rfl)⟩
          ·
            rintro ⟨⟩ hR
            first | show W _ _ _ ⟨0, [(0, .i .i64 p), (1, .i .i64 power), (5, .i .i64 ((rootN p power (c + 1) : Nat) : Int)), (6, .i .i64 (36 - (c : Int)))], []⟩ | skip
            refine W_region ?_
            refine wp rfl hC t_1 ?_
            refine wp rfl hC t_40 ?_
            refine wp rfl hC t_4 ?_
            refine WL_nil ?_
            exact ⟨(c + 1), (by omega), (weak (fun k => k) (.cons rfl t_2y trivial (.cons rfl t_2y trivial (.cons rfl t_2y trivial (.cons rfl t_2y trivial .nil)))) .nil rfl rfl rfl), (by omega)⟩
  ·
    replace hc := geq_f hc
    obtain rfl : c = 37 := by omega
    refine W_exit ?_
    refine wsr ?_
    refine wp rfl hC t_1 ?_
    refine wp rfl hC t_4s ?_
    refine wp rfl hC t_4 ?_
    refine WL_nil ?_
    refine W_ret ?_
    exact fin0 (.cons (.tmp rfl) .nil) (congrArg (AV.i .i64) (by unfold rootM; rw [Int.natCast_emod]; rfl)) t_0
set_option maxRecDepth 20000 in
set_option maxHeartbeats 4000000 in
theorem rprimes_c (n K : Nat) (hK : (primesN (K + 1)).length = n) (hK1 : (primesN K).length < n) (hs : K ≤ 1000) (hn : n ≤ 1000) : FnC Tryd.prog 83 [] [.i .i64 n] [] [(0, .row 3 1 n (I .i64 (NI (primesN (K + 1)))))] (.row 0) := by
  refine FnC.introR (N0 := 0) (T := 32) (E := [(0, .i .i64 n)]) Tryd.func83 rfl (by decide) mix rfl rfl rfl (by simp) rfl ⟨t_b, trivial⟩ (by simp) (by
        intro S ha hr hw
        have s0 : S 0 := hw 0 t_17 t_5
        refine ⟨by first | exact inSL_I _ | simp [s0], fun k b hm => ?_⟩
        simp only [List.mem_cons, Prod.mk.injEq, List.not_mem_nil, or_false] at hm
        rcases hm with ⟨rfl, rfl⟩
        · exact ⟨s0, by first | exact inSL_I _ | simp [s0]⟩) (fun F n0 X w ρ hC hro => ?_)
  refine wsr ?_
  refine wp rfl hC t_v ?_
  refine WL_nil ?_
  refine wsr ?_
  refine wp rfl hC t_v ?_
  refine WL_nil ?_
  refine W_seq ?_
  refine wsr ?_
  refine wp rfl hC t_k ?_
  refine WL_nil ?_
  refine W_blk ?_
  refine W_weak (weak_nil (t := 3) (e := 3) (sz := 1) rfl) ?_
  refine W_loopW (fun (ζ : Nat) => ⟨1, [(0, .i .i64 n), (3, .row 0), (4, .i .i64 ((ζ + 2 : Nat) : Int))], [(0, .row 3 1 (primesN ζ).length (I .i64 (NI (primesN ζ))))]⟩) (fun ζ => ζ ≤ K + 1) (fun ζ => K + 1 - ζ) (0) (Nat.zero_le _) (weak (fun k => k) (.cons rfl t_2y trivial (.cons rfl t_5 t_6 (.cons rfl rfl trivial .nil))) (.cons rfl (renRow (l' := []) (by rw [primesN_zero]; rfl) (by rw [primesN_zero]; rfl)) rfl t_0 .nil) rfl rfl rfl) ?_
  intro i hR
  replace hR : i ≤ K + 1 := hR
  first | show W _ _ _ ⟨1, [(0, .i .i64 n), (3, .row 0), (4, .i .i64 ((i + 2 : Nat) : Int))], [(0, .row 3 1 (primesN i).length (I .i64 (NI (primesN i))))]⟩ | skip
  refine W_seq ?_
  refine wsr ?_
  refine wp rfl hC t_1 ?_
  refine wp rfl hC t_3z ?_
  refine wp rfl hC t_1 ?_
  refine wp rfl hC t_1e ?_
  refine WL_nil ?_
  refine W_cond rfl (by decide) (fun hc => ?_) (fun hc => ?_)
  ·
    replace hc := lss_t hc
    have hik : i < K + 1 := by
      rcases Nat.lt_or_ge i (K + 1) with h | h
      · exact h
      · have : i = K + 1 := by omega
        rw [this, hK] at hc; omega
    refine W_skip ?_
    refine W_seq ?_
    refine W_blk ?_
    refine wsr ?_
    refine wp rfl hC t_1d ?_
    refine WL_nil ?_
    refine W_seq ?_
    refine wsr ?_
    refine wp rfl hC t_k ?_
    refine WL_nil ?_
    refine W_blk ?_
    refine W_loopW (fun (ζ : Nat) => ⟨1, [(0, .i .i64 n), (3, .row 0), (4, .i .i64 ((i + 2 : Nat) : Int)), (5, .b (((primesN i).take ζ).all (fun q => (i + 2) % q != 0))), (6, .i .i64 ζ)], [(0, .row 3 1 (primesN i).length (I .i64 (NI (primesN i))))]⟩) (fun ζ => ζ ≤ (primesN i).length) (fun ζ => (primesN i).length - ζ) (0) (Nat.zero_le _) (weak (fun k => k) (.cons rfl t_2y trivial (.cons rfl t_5 t_6 (.cons rfl t_2y trivial (.cons rfl rfl trivial (.cons rfl rfl trivial .nil))))) (.cons rfl t_g rfl t_0 .nil) rfl rfl rfl) ?_
    intro k hR
    replace hR : k ≤ (primesN i).length := hR
    first | show W _ _ _ ⟨1, [(0, .i .i64 n), (3, .row 0), (4, .i .i64 ((i + 2 : Nat) : Int)), (5, .b (((primesN i).take k).all (fun q => (i + 2) % q != 0))), (6, .i .i64 k)], [(0, .row 3 1 (primesN i).length (I .i64 (NI (primesN i))))]⟩ | skip
    refine W_seq ?_
    refine wsr ?_
    refine wp rfl hC t_1 ?_
    refine wp rfl hC t_1 ?_
    refine wp rfl hC t_3z ?_
    refine wp rfl hC t_1e ?_
    refine WL_nil ?_
    refine W_cond rfl (by decide) (fun hc => ?_) (fun hc => ?_)
    ·
      replace hc := lss_t hc
      have hk : k < (primesN i).length := by omega
      have hq := primesN_mem (n := i) (q := (primesN i).getD k 0) (by rw [List.getD_eq_getElem?_getD, List.getElem?_eq_getElem hk]; exact List.getElem_mem hk)
      refine W_skip ?_
      refine W_seq ?_
      refine W_blk ?_
      refine wsr ?_
      refine wp rfl hC t_1 ?_
      refine wp rfl hC t_1 ?_
      refine wp rfl hC t_1 ?_
      refine wp rfl hC t_7f ?_
      refine wp rfl hC t_4h ?_
      refine wp rfl hC (oc_div hC (.inr rfl) (.tmp rfl) (.tmp rfl) (by omega) (r := (((i + 2) % (primesN i).getD k 0 : Nat) : Int)) nrem rfl rfl) ?_
      refine wp rfl hC t_11 ?_
      refine WL_nil ?_
      refine W_join (fun (ζ : Unit) => ⟨1, [(0, .i .i64 n), (3, .row 0), (4, .i .i64 ((i + 2 : Nat) : Int)), (5, .b (((primesN i).take (k + 1)).all (fun q => (i + 2) % q != 0))), (6, .i .i64 k)], [(0, .row 3 1 (primesN i).length (I .i64 (NI (primesN i))))]⟩) (fun ζ => True) ?_ ?_
      ·
        refine W_cond rfl (by decide) (fun hc => ?_) (fun hc => ?_)
        ·
          replace hc := eql_t hc
          refine W_region ?_
          refine wp rfl hC t_1d ?_
          refine WL_nil ?_
          exact ⟨(), trivial, (weak (fun k => k) (.cons rfl t_2y trivial (.cons rfl t_5 t_6 (.cons rfl t_2y trivial (.cons rfl (congrArg AV.b (by rw [all_take_succ hk, show ((i + 2) % (primesN i).getD k 0 != 0) = false by rw [bne_eq_false_iff_eq]; omega, Bool.and_false])) trivial (.cons rfl t_2y trivial .nil))))) (.cons rfl t_g rfl t_0 .nil) rfl rfl rfl)⟩
        ·
          replace hc := eql_f hc
          refine W_skip ?_
          exact ⟨(), trivial, (weak (fun k => k) (.cons rfl t_2y trivial (.cons rfl t_5 t_6 (.cons rfl t_2y trivial (.cons rfl (congrArg AV.b (by rw [all_take_succ hk, show ((i + 2) % (primesN i).getD k 0 != 0) = true by rw [bne_iff_ne]; omega, Bool.and_true])) trivial (.cons rfl t_2y trivial .nil))))) (.cons rfl t_g rfl t_0 .nil) rfl rfl rfl)⟩
      ·
        rintro ⟨⟩ hR
        first | show W _ _ _ ⟨1, [(0, .i .i64 n), (3, .row 0), (4, .i .i64 ((i + 2 : Nat) : Int)), (5, .b (((primesN i).take (k + 1)).all (fun q => (i + 2) % q != 0))), (6, .i .i64 k)], [(0, .row 3 1 (primesN i).length (I .i64 (NI (primesN i))))]⟩ | skip
        refine W_region ?_
        refine wp rfl hC t_1 ?_
        refine wp rfl hC t_36 ?_
        refine wp rfl hC t_4 ?_
        refine WL_nil ?_
        exact ⟨(k + 1), (by omega), (weak (fun k => k) (.cons rfl t_2y trivial (.cons rfl t_5 t_6 (.cons rfl t_2y trivial (.cons rfl t_5 trivial (.cons rfl t_2y trivial .nil))))) (.cons rfl t_g rfl t_0 .nil) rfl rfl rfl), (by omega)⟩
    ·
      replace hc := lss_f hc
      obtain rfl : k = (primesN i).length := by omega
      rw [List.take_length]
      refine W_exit ?_
      refine wsr ?_
      refine wp rfl hC t_1 ?_
      refine WL_nil ?_
      refine W_join (fun (ζ : Unit) => ⟨1, [(0, .i .i64 n), (3, .row 0), (4, .i .i64 ((i + 2 : Nat) : Int))], [(0, .row 3 1 (primesN (i + 1)).length (I .i64 (NI (primesN (i + 1)))))]⟩) (fun ζ => True) ?_ ?_
      ·
        refine W_cond rfl (by decide) (fun hc => ?_) (fun hc => ?_)
        ·
          have hpt := primesN_t hc
          refine W_region ?_
          refine wp rfl hC t_1 ?_
          refine wp rfl hC t_1 ?_
          refine wp rfl hC t_42 ?_
          refine wp rfl hC t_6v ?_
          refine wp rfl hC t_4 ?_
          refine WL_nil ?_
          exact ⟨(), trivial, (weak (fun k => bif Nat.beq k 0 then 1 else k) (.cons rfl t_2y trivial (.cons rfl t_5 t_6 (.cons rfl t_2y trivial .nil))) (.cons rfl (renRow (by rw [hpt]; simp) (by rw [hpt]; simp)) rfl t_0 .nil) rfl rfl rfl)⟩
        ·
          have hpf := primesN_f hc
          refine W_skip ?_
          exact ⟨(), trivial, (weak (fun k => k) (.cons rfl t_2y trivial (.cons rfl t_5 t_6 (.cons rfl t_2y trivial .nil))) (.cons rfl (renRow (by rw [hpf]) (by rw [hpf])) rfl t_0 .nil) rfl rfl rfl)⟩
      ·
        rintro ⟨⟩ hR
        first | show W _ _ _ ⟨1, [(0, .i .i64 n), (3, .row 0), (4, .i .i64 ((i + 2 : Nat) : Int))], [(0, .row 3 1 (primesN (i + 1)).length (I .i64 (NI (primesN (i + 1)))))]⟩ | skip
        refine W_region ?_
        refine wp rfl hC t_1 ?_
        refine wp rfl hC t_36 ?_
        refine wp rfl hC t_4 ?_
        refine WL_nil ?_
        exact ⟨(i + 1), (by omega), (weak (fun k => k) (.cons rfl t_2y trivial (.cons rfl t_5 t_6 (.cons rfl (congrArg (AV.i _) (by omega)) trivial .nil))) (.cons rfl t_g rfl t_0 .nil) rfl rfl rfl), (by omega)⟩
  ·
    replace hc := lss_f hc
    obtain rfl : i = K + 1 := by
      rcases Nat.lt_or_ge i (K + 1) with h | h
      · have := primesN_mono (m := i) (n := K) (by omega); omega
      · omega
    rw [hK]
    refine W_exit ?_
    refine wsr ?_
    refine wp rfl hC t_1 ?_
    refine wp rfl hC t_4 ?_
    refine WL_nil ?_
    refine W_ret ?_
    exact fin1 (.cons (.tmp rfl) .nil) rfl rfl (inSL_I _)
set_option maxRecDepth 20000 in
set_option maxHeartbeats 4000000 in
theorem rstart_c  : FnC Tryd.prog 62 [] [] [] [(0, .row 3 1 8 (I .i64 start8))] (.row 0) := by
  refine FnC.introR (N0 := 0) (T := 18) (E := []) Tryd.func62 rfl (by decide) mix rfl rfl rfl (by simp) rfl trivial (by simp) (by
        intro S ha hr hw
        have s0 : S 0 := hw 0 t_17 t_5
        refine ⟨by first | exact inSL_I _ | simp [s0], fun k b hm => ?_⟩
        simp only [List.mem_cons, Prod.mk.injEq, List.not_mem_nil, or_false] at hm
        rcases hm with ⟨rfl, rfl⟩
        · exact ⟨s0, by first | exact inSL_I _ | simp [s0]⟩) (fun F n0 X w ρ hC hro => ?_)
  refine wsr ?_
  refine wp rfl hC t_v ?_
  refine WL_nil ?_
  refine wsr ?_
  refine wp rfl hC t_v ?_
  refine WL_nil ?_
  refine wsr ?_
  refine wp rfl hC (oc_callN hC (.cons .cint .nil) (.cons1 (.free t_0) (.same t_0)) (rprimes_c 8 17 (by rw [primes8_eq]; rfl) (by rw [primes7_len]; decide) (by decide) (by decide)) glob_nil t_0 rfl t_q rfl rfl) ?_
  rw [primes8_eq]
  refine wp rfl hC t_4 ?_
  refine WL_nil ?_
  refine W_seq ?_
  refine wsr ?_
  refine wp rfl hC t_k ?_
  refine WL_nil ?_
  refine W_blk ?_
  refine W_weak (weak_nil (t := 1) (e := 3) (sz := 1) rfl) ?_
  refine W_loopW (fun (ζ : Nat) => ⟨2, [(1, .row 1), (2, .row 0), (3, .i .i64 ζ)], [(0, .row 3 1 8 (I .i64 (NI primes8))), (1, .row 3 1 ζ (I .i64 ((primes8.take ζ).map (fun p => ((rootM p 2 : Nat) : Int)))))]⟩) (fun ζ => ζ ≤ 8) (fun ζ => 8 - ζ) (0) (by simp) (weak (fun k => k) (.cons rfl t_5 t_6 (.cons rfl t_5 t_6 (.cons rfl rfl trivial .nil))) (.cons rfl t_g rfl t_0 (.cons rfl (renRow (l' := []) rfl rfl) rfl t_0 .nil)) rfl rfl rfl) ?_
  intro k hR
  replace hR : k ≤ 8 := hR
  first | show W _ _ _ ⟨2, [(1, .row 1), (2, .row 0), (3, .i .i64 k)], [(0, .row 3 1 8 (I .i64 (NI primes8))), (1, .row 3 1 k (I .i64 ((primes8.take k).map (fun p => ((rootM p 2 : Nat) : Int)))))]⟩ | skip
  refine W_seq ?_
  refine wsr ?_
  refine wp rfl hC t_1 ?_
  refine wp rfl hC t_11 ?_
  refine WL_nil ?_
  refine W_cond rfl (by decide) (fun hc => ?_) (fun hc => ?_)
  ·
    replace hc := lss_t hc
    have hk : k < primes8.length := by show k < 8; omega
    have hpk := getD_B16 B16_primes8 k
    refine W_skip ?_
    refine W_seq ?_
    refine W_blk ?_
    refine W_region ?_
    refine wp rfl hC t_1 ?_
    refine wp rfl hC t_1 ?_
    refine wp rfl hC t_1 ?_
    refine wp rfl hC t_7f ?_
    refine wp rfl hC (oc_load hC (.tmp rfl) t_3 shp_3 (by exact (unit_NI hk)) rfl rfl) ?_
    refine wp rfl hC (oc_call hC (.cons (.tmp rfl) (.cons .cint .nil)) (.cons1 (.free t_0) (.cons1 (.free t_0) (.same t_0))) (rroot_c _ 2 hpk (by decide)) glob_nil t_0 t_8 rfl rfl) ?_
    refine wp rfl hC t_42 ?_
    refine wp rfl hC t_6v ?_
    refine wp rfl hC t_4 ?_
    refine WL_nil ?_
    refine W_region ?_
    refine wp rfl hC t_1 ?_
    refine wp rfl hC t_36 ?_
    refine wp rfl hC t_4 ?_
    refine WL_nil ?_
    exact ⟨(k + 1), (by omega), (weak (fun k => bif Nat.beq k 1 then 2 else k) (.cons rfl t_5 t_6 (.cons rfl t_5 t_6 (.cons rfl t_2y trivial .nil))) (.cons rfl t_g rfl t_0 (.cons rfl (renRow rfl (roots_succ hk).symm) rfl t_0 .nil)) rfl rfl rfl), (by omega)⟩
  ·
    replace hc := lss_f hc
    obtain rfl : k = 8 := by omega
    rw [show primes8.take 8 = primes8 by rfl, start8_roots]
    refine W_exit ?_
    refine wsr ?_
    refine wp rfl hC t_1 ?_
    refine wp rfl hC t_4 ?_
    refine WL_nil ?_
    refine W_ret ?_
    exact fin1 (.cons (.tmp rfl) .nil) rfl rfl (inSL_I _)
set_option maxRecDepth 20000 in
set_option maxHeartbeats 4000000 in
theorem rtable_c  : FnC Tryd.prog 63 [] [] [] [(0, .row 3 1 64 (I .i64 tbl))] (.row 0) := by
  refine FnC.introR (N0 := 0) (T := 18) (E := []) Tryd.func63 rfl (by decide) mix rfl rfl rfl (by simp) rfl trivial (by simp) (by
        intro S ha hr hw
        have s0 : S 0 := hw 0 t_17 t_5
        refine ⟨by first | exact inSL_I _ | simp [s0], fun k b hm => ?_⟩
        simp only [List.mem_cons, Prod.mk.injEq, List.not_mem_nil, or_false] at hm
        rcases hm with ⟨rfl, rfl⟩
        · exact ⟨s0, by first | exact inSL_I _ | simp [s0]⟩) (fun F n0 X w ρ hC hro => ?_)
  refine wsr ?_
  refine wp rfl hC t_v ?_
  refine WL_nil ?_
  refine wsr ?_
  refine wp rfl hC t_v ?_
  refine WL_nil ?_
  refine wsr ?_
  refine wp rfl hC (oc_callN hC (.cons .cint .nil) (.cons1 (.free t_0) (.same t_0)) (rprimes_c 64 309 (by rw [primes64_eq]; rfl) (by rw [primes63_len]; decide) (by decide) (by decide)) glob_nil t_0 rfl t_q rfl rfl) ?_
  rw [primes64_eq]
  refine wp rfl hC t_4 ?_
  refine WL_nil ?_
  refine W_seq ?_
  refine wsr ?_
  refine wp rfl hC t_k ?_
  refine WL_nil ?_
  refine W_blk ?_
  refine W_weak (weak_nil (t := 1) (e := 3) (sz := 1) rfl) ?_
  refine W_loopW (fun (ζ : Nat) => ⟨2, [(1, .row 1), (2, .row 0), (3, .i .i64 ζ)], [(0, .row 3 1 64 (I .i64 (NI primes64))), (1, .row 3 1 ζ (I .i64 ((primes64.take ζ).map (fun p => ((rootM p 3 : Nat) : Int)))))]⟩) (fun ζ => ζ ≤ 64) (fun ζ => 64 - ζ) (0) (by simp) (weak (fun k => k) (.cons rfl t_5 t_6 (.cons rfl t_5 t_6 (.cons rfl rfl trivial .nil))) (.cons rfl t_g rfl t_0 (.cons rfl (renRow (l' := []) rfl rfl) rfl t_0 .nil)) rfl rfl rfl) ?_
  intro k hR
  replace hR : k ≤ 64 := hR
  first | show W _ _ _ ⟨2, [(1, .row 1), (2, .row 0), (3, .i .i64 k)], [(0, .row 3 1 64 (I .i64 (NI primes64))), (1, .row 3 1 k (I .i64 ((primes64.take k).map (fun p => ((rootM p 3 : Nat) : Int)))))]⟩ | skip
  refine W_seq ?_
  refine wsr ?_
  refine wp rfl hC t_1 ?_
  refine wp rfl hC t_11 ?_
  refine WL_nil ?_
  refine W_cond rfl (by decide) (fun hc => ?_) (fun hc => ?_)
  ·
    replace hc := lss_t hc
    have hk : k < primes64.length := by show k < 64; omega
    have hpk := getD_B16 B16_primes64 k
    refine W_skip ?_
    refine W_seq ?_
    refine W_blk ?_
    refine W_region ?_
    refine wp rfl hC t_1 ?_
    refine wp rfl hC t_1 ?_
    refine wp rfl hC t_1 ?_
    refine wp rfl hC t_7f ?_
    refine wp rfl hC (oc_load hC (.tmp rfl) t_3 shp_3 (by exact (unit_NI hk)) rfl rfl) ?_
    refine wp rfl hC (oc_call hC (.cons (.tmp rfl) (.cons .cint .nil)) (.cons1 (.free t_0) (.cons1 (.free t_0) (.same t_0))) (rroot_c _ 3 hpk (by decide)) glob_nil t_0 t_8 rfl rfl) ?_
    refine wp rfl hC t_42 ?_
    refine wp rfl hC t_6v ?_
    refine wp rfl hC t_4 ?_
    refine WL_nil ?_
    refine W_region ?_
    refine wp rfl hC t_1 ?_
    refine wp rfl hC t_36 ?_
    refine wp rfl hC t_4 ?_
    refine WL_nil ?_
    exact ⟨(k + 1), (by omega), (weak (fun k => bif Nat.beq k 1 then 2 else k) (.cons rfl t_5 t_6 (.cons rfl t_5 t_6 (.cons rfl t_2y trivial .nil))) (.cons rfl t_g rfl t_0 (.cons rfl (renRow rfl (roots_succ hk).symm) rfl t_0 .nil)) rfl rfl rfl), (by omega)⟩
  ·
    replace hc := lss_f hc
    obtain rfl : k = 64 := by omega
    rw [show primes64.take 64 = primes64 by rfl, tbl_roots]
    refine W_exit ?_
    refine wsr ?_
    refine wp rfl hC t_1 ?_
    refine wp rfl hC t_4 ?_
    refine WL_nil ?_
    refine W_ret ?_
    exact fin1 (.cons (.tmp rfl) .nil) rfl rfl (inSL_I _)
set_option maxRecDepth 20000 in
set_option maxHeartbeats 4000000 in
theorem rpad_c (n : Nat) (hn : n ≤ 1099511627776) : FnC Tryd.prog 61 [] [.i .i64 n] [] [(0, .row 5 1 (9 + padZ n) (I .u8 (padM n)))] (.row 0) := by
  have hz := padZ_lt n
  refine FnC.introR (N0 := 0) (T := 39) (E := [(0, .i .i64 n)]) Tryd.func61 rfl (by decide) mix rfl rfl rfl (by simp) rfl ⟨t_b, trivial⟩ (by simp) (by
        intro S ha hr hw
        have s0 : S 0 := hw 0 t_17 t_5
        refine ⟨by first | exact inSL_I _ | simp [s0], fun k b hm => ?_⟩
        simp only [List.mem_cons, Prod.mk.injEq, List.not_mem_nil, or_false] at hm
        rcases hm with ⟨rfl, rfl⟩
        · exact ⟨s0, by first | exact inSL_I _ | simp [s0]⟩) (fun F n0 X w ρ hC hro => ?_)
  refine wsr ?_
  refine wp rfl hC t_v ?_
  refine WL_nil ?_
  refine W_seq ?_
  refine wsr ?_
  refine wp rfl hC t_1 ?_
  refine wp rfl hC t_11 ?_
  refine WL_nil ?_
  refine W_cond rfl (by decide) (fun hc => ?_) (fun hc => ?_)
  ·
    replace hc := lss_t hc
    exfalso
    omega
  ·
    replace hc := lss_f hc
    refine W_skip ?_
    refine wsr ?_
    refine wp rfl hC (ox_litR hC (.cons .cint .nil) Tryd.underlying22 cells_5 zero_5 rfl (by decide) rfl rfl t_5 rfl rfl) ?_
    refine wp rfl hC t_4 ?_
    refine WL_nil ?_
    refine W_seq ?_
    refine W_blk ?_
    refine W_loopW (fun (ζ : Nat) => ⟨1, [(0, .i .i64 n), (3, .row 0)], [(0, .row 5 1 (1 + ζ) (I .u8 (128 :: List.replicate ζ 0)))]⟩) (fun ζ => ζ ≤ padZ n) (fun ζ => padZ n - ζ) (0) (Nat.zero_le _) (weak (fun k => k) (.cons rfl t_2y trivial (.cons rfl t_5 t_6 .nil)) (.cons rfl rfl rfl t_0 .nil) rfl rfl rfl) ?_
    intro i hR
    replace hR : i ≤ padZ n := hR
    first | show W _ _ _ ⟨1, [(0, .i .i64 n), (3, .row 0)], [(0, .row 5 1 (1 + i) (I .u8 (128 :: List.replicate i 0)))]⟩ | skip
    refine W_seq ?_
    refine wsr ?_
    refine wp rfl hC t_1 ?_
    refine wp rfl hC t_45 ?_
    refine wp rfl hC t_1 ?_
    refine wp rfl hC t_32 ?_
    refine wp rfl hC t_3p ?_
    refine wp rfl hC t_36 ?_
    refine wp rfl hC t_45 ?_
    refine wp rfl hC t_11 ?_
    replace hR : i ≤ padZ n := hR
    refine WL_nil ?_
    refine W_cond rfl (by decide) (fun hc => ?_) (fun hc => ?_)
    ·
      replace hc := neq_t hc
      have hne : i ≠ padZ n := fun e => hc (by have := padZ_all n; rw [← e] at this; omega)
      refine W_skip ?_
      refine W_blk ?_
      refine W_region ?_
      refine wp rfl hC t_1 ?_
      refine wp rfl hC t_5c ?_
      refine wp rfl hC t_6o ?_
      refine wp rfl hC t_4 ?_
      refine WL_nil ?_
      exact ⟨(i + 1), (by omega), (weak (fun k => bif Nat.beq k 0 then 1 else k) (.cons rfl t_2y trivial (.cons rfl t_5 t_6 .nil)) (.cons rfl (renRow (Nat.add_assoc 1 i 1).symm (rep_succ i).symm) rfl t_0 .nil) rfl rfl rfl), (by omega)⟩
    ·
      replace hc := neq_f hc
      obtain rfl : i = padZ n := padZ_end hR (by omega)
      refine W_exit ?_
      refine wsr ?_
      refine wp rfl hC t_1 ?_
      refine wp rfl hC (oc_conv hC (.tmp rfl) rfl Tryd.underlying50 (r := ((n : Nat) : Int)) (u64_conv (by omega)) rfl rfl) ?_
      refine wp rfl hC (oc_bin hC rfl (.tmp rfl) .cint (r := ((8 * n / 256 ^ 0 : Nat) : Int)) (by rw [u64_mul (by omega)]; omega) rfl rfl) ?_
      refine wp rfl hC t_4 ?_
      refine WL_nil ?_
      refine wsr ?_
      refine wp rfl hC t_v ?_
      refine WL_nil ?_
      refine W_seq ?_
      refine wsr ?_
      refine wp rfl hC t_k ?_
      refine WL_nil ?_
      refine W_blk ?_
      refine W_weak (weak_nil (t := 5) (e := 5) (sz := 1) rfl) ?_
      refine W_loopW (fun (ζ : Nat) => ⟨2, [(3, .row 0), (4, .i .u64 ((8 * n / 256 ^ ζ : Nat) : Int)), (5, .row 1), (6, .i .i64 ζ)], [(0, .row 5 1 (1 + padZ n) (I .u8 (128 :: List.replicate (padZ n) 0))), (1, .row 5 1 ζ (I .u8 (tailB n ζ)))]⟩) (fun ζ => ζ ≤ 8) (fun ζ => 8 - ζ) (0) (by simp) (weak (fun k => k) (.cons rfl t_5 t_6 (.cons rfl rfl trivial (.cons rfl t_5 t_6 (.cons rfl rfl trivial .nil)))) (.cons rfl t_g rfl t_0 (.cons rfl (renRow rfl tailB_zero) rfl t_0 .nil)) rfl rfl rfl) ?_
      intro j hR
      replace hR : j ≤ 8 := hR
      first | show W _ _ _ ⟨2, [(3, .row 0), (4, .i .u64 ((8 * n / 256 ^ j : Nat) : Int)), (5, .row 1), (6, .i .i64 j)], [(0, .row 5 1 (1 + padZ n) (I .u8 (128 :: List.replicate (padZ n) 0))), (1, .row 5 1 j (I .u8 (tailB n j)))]⟩ | skip
      have hlt := length_tailB (n := n) (j := j)
      have hle8 : 8 * n / 256 ^ j ≤ 8 * n := Nat.div_le_self _ _
      refine W_seq ?_
      refine wsr ?_
      refine wp rfl hC t_1 ?_
      refine wp rfl hC t_11 ?_
      refine WL_nil ?_
      refine W_cond rfl (by decide) (fun hc => ?_) (fun hc => ?_)
      ·
        replace hc := lss_t hc
        refine W_skip ?_
        refine W_seq ?_
        refine W_blk ?_
        refine wsr ?_
        
        refine wp rfl hC t_1 ?_
        refine wp rfl hC (oc_div hC (.inr rfl) (.tmp rfl) .cint t_j (r := ((8 * n / 256 ^ j % 256 : Nat) : Int)) (nrem_u) rfl rfl) ?_
        refine wp rfl hC (oc_conv hC (.tmp rfl) rfl Tryd.underlying5 (r := beB (8 * n) (7 - j)) (by rw [tail_byte (by omega)]; have := beB_range (8 * n) (7 - j); exact u8_conv (by omega)) rfl rfl) ?_
        refine wp rfl hC (ox_litRI (k := .u8) (ws := [beB (8 * n) (7 - j)]) hC (.cons (.tmp rfl) .nil) Tryd.underlying22 cells_5 zero_5 rfl (by decide) rfl rfl t_5 rfl rfl rfl) ?_
        refine wp rfl hC t_1 ?_
        refine wp rfl hC (ox_append (n' := 1 + j) (cs' := I .u8 (tailB n (j + 1))) hC (.tmp rfl) (.tmp rfl) t_35 t_a t_r Tryd.underlying22 cells_5 bytes_5 zero_5 rfl (by decide) t_1n t_t t_16 ((app_I hlt).trans (congrArg (I .u8) (tailB_succ (n := n) (j := j) (by omega)))) t_n (by omega) rfl rfl) ?_
        refine wp rfl hC t_4 ?_
        refine WL_nil ?_
        refine W_region ?_
        refine wp rfl hC t_1 ?_
        refine wp rfl hC (oc_div hC (.inl rfl) (.tmp rfl) .cint t_j (r := ((8 * n / 256 ^ (j + 1) : Nat) : Int)) (by rw [Nat.pow_succ, ← Nat.div_div_eq_div_mul]; exact nquo_u (by omega)) rfl rfl) ?_
        refine wp rfl hC t_4 ?_
        refine WL_nil ?_
        refine W_region ?_
        refine wp rfl hC t_1 ?_
        refine wp rfl hC t_36 ?_
        refine wp rfl hC t_4 ?_
        refine WL_nil ?_
        exact ⟨(j + 1), (by omega), (weak (fun k => bif Nat.beq k 1 then 3 else k) (.cons rfl t_5 t_6 (.cons rfl t_2y trivial (.cons rfl t_5 t_6 (.cons rfl t_2y trivial .nil)))) (.cons rfl t_g rfl t_0 (.cons rfl (renRow (Nat.add_comm j 1) rfl) rfl t_0 .nil)) rfl rfl rfl), (by omega)⟩
      ·
        replace hc := lss_f hc
        obtain rfl : j = 8 := by omega
        have hlt := length_tailB (n := n) (j := 8)
        refine W_exit ?_
        refine wsr ?_
        refine wp rfl hC t_1 ?_
        refine wp rfl hC t_1 ?_
        refine wp rfl hC (ox_append (n' := 9 + padZ n) (cs' := I .u8 (padM n)) hC (.tmp rfl) (.tmp rfl) t_35 t_a t_r Tryd.underlying22 cells_5 bytes_5 zero_5 rfl (by decide) t_1n t_t (by omega) ((app_I hlt).trans (congrArg (I .u8) tail_end)) t_n (by omega) rfl rfl) ?_
        refine wp rfl hC t_4 ?_
        refine WL_nil ?_
        refine W_ret ?_
        exact fin1 (.cons (.tmp rfl) .nil) rfl rfl (inSL_I _)
set_option maxRecDepth 20000 in
set_option maxHeartbeats 4000000 in
theorem drblock_c (s b tb : List Int) (hs8 : s.length = 8) (hb64 : b.length = 64) (ht64 : tb.length = 64) (hs : W32 s) (hb : B8 b) (htb : W32 tb) : FnC Tryd.prog 64 [] [.vs 8 (I .i64 s), .vs 64 (I .u8 b), .vs 64 (I .i64 tb)] [] [(0, .row 3 1 8 (I .i64 (blockM tb s b)))] (.row 0) := by
  refine FnC.introR (N0 := 0) (T := 237) (E := [(0, .vs 8 (I .i64 s)), (1, .vs 64 (I .u8 b)), (2, .vs 64 (I .i64 tb))]) Tryd.func64 rfl (by decide) mix rfl rfl rfl (by simp) rfl ⟨t_b, t_b, t_b, trivial⟩ (by simp) (by
        intro S ha hr hw
        have s0 : S 0 := hw 0 t_17 t_5
        refine ⟨by first | exact inSL_I _ | simp [s0], fun k b hm => ?_⟩
        simp only [List.mem_cons, Prod.mk.injEq, List.not_mem_nil, or_false] at hm
        rcases hm with ⟨rfl, rfl⟩
        · exact ⟨s0, by first | exact inSL_I _ | simp [s0]⟩) (fun F n0 X w ρ hC hro => ?_)
  refine wsr ?_
  refine wp rfl hC t_v ?_
  refine WL_nil ?_
  refine wsr ?_
  refine wp rfl hC t_v ?_
  refine WL_nil ?_
  refine W_seq ?_
  refine wsr ?_
  refine wp rfl hC t_k ?_
  refine WL_nil ?_
  refine W_blk ?_
  refine W_weak (weak_nil (t := 7) (e := 3) (sz := 1) rfl) ?_
  refine W_loopW (fun (ζ : Nat) => ⟨1, [(0, .vs 8 (I .i64 s)), (1, .vs 64 (I .u8 b)), (2, .vs 64 (I .i64 tb)), (7, .row 0), (8, .i .i64 ζ)], [(0, .row 3 1 ζ (I .i64 ((List.range ζ).map (fun j => word4 b (4 * j)))))]⟩) (fun ζ => ζ ≤ 16) (fun ζ => 16 - ζ) (0) (by simp) (weak (fun k => k) (.cons rfl t_30 t_0 (.cons rfl t_30 t_0 (.cons rfl t_30 t_0 (.cons rfl t_5 t_6 (.cons rfl rfl trivial .nil))))) (.cons rfl (renRow (l' := []) rfl rfl) rfl t_0 .nil) rfl rfl rfl) ?_
  intro i hR
  replace hR : i ≤ 16 := hR
  first | show W _ _ _ ⟨1, [(0, .vs 8 (I .i64 s)), (1, .vs 64 (I .u8 b)), (2, .vs 64 (I .i64 tb)), (7, .row 0), (8, .i .i64 i)], [(0, .row 3 1 i (I .i64 ((List.range i).map (fun j => word4 b (4 * j)))))]⟩ | skip
  have h0 := hb.get (4 * i)
  have h1 := hb.get (4 * i + 1)
  have h2 := hb.get (4 * i + 2)
  have h3 := hb.get (4 * i + 3)
  refine W_seq ?_
  refine wsr ?_
  refine wp rfl hC t_1 ?_
  refine wp rfl hC t_11 ?_
  refine WL_nil ?_
  refine W_cond rfl (by decide) (fun hc => ?_) (fun hc => ?_)
  ·
    replace hc := lss_t hc
    refine W_skip ?_
    refine W_seq ?_
    refine W_blk ?_
    refine W_drawD hC ?_
    refine WD_cons (.plain rfl t_1) ?_
    refine WD_cons (.plain rfl t_1) ?_
    refine WD_cons (.plain rfl t_1) ?_
    refine WD_cons (.plain rfl t_43) ?_
    refine WD_cons (.plain rfl (ox_indexS hC (j := 4 * i) (.tmp rfl) (.tmp rfl) idx_22 t_w t_d t_33 t_2 rfl rfl)) ?_
    refine WD_cons (.plain rfl t_6l) ?_
    refine WD_cons (.plain rfl t_4d) ?_
    refine WD_cons (.plain rfl t_4g) ?_
    refine WD_cons (.plain rfl t_1) ?_
    refine WD_cons (.plain rfl t_1) ?_
    refine WD_cons (.plain rfl t_43) ?_
    refine WD_cons (.plain rfl t_36) ?_
    refine WD_cons (.plain rfl (ox_indexS hC (j := 4 * i + 1) (.tmp rfl) (.tmp rfl) idx_22 t_w t_d t_33 t_2 rfl rfl)) ?_
    refine WD_cons (.plain rfl t_6l) ?_
    refine WD_cons (.plain rfl t_4d) ?_
    refine WD_cons (.plain rfl t_3p) ?_
    refine WD_cons (.plain rfl t_4g) ?_
    refine WD_cons (.plain rfl t_1) ?_
    refine WD_cons (.plain rfl t_1) ?_
    refine WD_cons (.plain rfl t_43) ?_
    refine WD_cons (.plain rfl t_36) ?_
    refine WD_cons (.plain rfl (ox_indexS hC (j := 4 * i + 2) (.tmp rfl) (.tmp rfl) idx_22 t_w t_d t_33 t_2 rfl rfl)) ?_
    refine WD_cons (.plain rfl t_6l) ?_
    refine WD_cons (.plain rfl t_4d) ?_
    refine WD_cons (.plain rfl t_3p) ?_
    refine WD_cons (.plain rfl t_4g) ?_
    refine WD_cons (.plain rfl t_1) ?_
    refine WD_cons (.plain rfl t_1) ?_
    refine WD_cons (.plain rfl t_43) ?_
    refine WD_cons (.plain rfl t_36) ?_
    refine WD_cons (.plain rfl (ox_indexS hC (j := 4 * i + 3) (.tmp rfl) (.tmp rfl) idx_22 t_w t_d t_33 t_2 rfl rfl)) ?_
    refine WD_cons (.plain rfl t_6l) ?_
    refine WD_cons (.plain rfl t_4d) ?_
    refine WD_cons (.plain rfl (oc_bin hC rfl (.tmp rfl) (.tmp rfl) (r := word4 b (4 * i)) (by rw [i64_add (by omega)]; unfold word4; rfl) rfl rfl)) ?_
    refine WD_cons (.plain rfl t_42) ?_
    refine WD_cons (.plain rfl t_6v) ?_
    refine WD_cons (.plain rfl t_4) ?_
    refine WD_nil t_x ?_
    refine W_region ?_
    refine wp rfl hC t_1 ?_
    refine wp rfl hC t_36 ?_
    refine wp rfl hC t_4 ?_
    refine WL_nil ?_
    exact ⟨(i + 1), (by omega), (weak (fun k => bif Nat.beq k 0 then 1 else k) (.cons rfl t_30 t_0 (.cons rfl t_30 t_0 (.cons rfl t_30 t_0 (.cons rfl t_5 t_6 (.cons rfl t_2y trivial .nil))))) (.cons rfl (renRow rfl first_succ.symm) rfl t_0 .nil) rfl rfl rfl), (by omega)⟩
  ·
    replace hc := lss_f hc
    refine W_exit ?_
    refine W_seq ?_
    refine wsr ?_
    refine wp rfl hC t_k ?_
    refine WL_nil ?_
    refine W_blk ?_
    obtain rfl : i = 16 := by omega
    refine W_loopW (fun (ζ : Nat) => ⟨1, [(0, .vs 8 (I .i64 s)), (1, .vs 64 (I .u8 b)), (2, .vs 64 (I .i64 tb)), (7, .row 0), (9, .i .i64 (16 + (ζ : Int)))], [(0, .row 3 1 (16 + ζ) (I .i64 (sched ζ (first16 b))))]⟩) (fun ζ => ζ ≤ 48) (fun ζ => 48 - ζ) (0) (by simp) (weak (fun k => k) (.cons rfl t_30 t_0 (.cons rfl t_30 t_0 (.cons rfl t_30 t_0 (.cons rfl t_5 t_6 (.cons rfl rfl trivial .nil))))) (.cons rfl (renRow rfl (sched_zero.trans first16_eq.symm)) rfl t_0 .nil) rfl rfl rfl) ?_
    intro j hR
    replace hR : j ≤ 48 := hR
    first | show W _ _ _ ⟨1, [(0, .vs 8 (I .i64 s)), (1, .vs 64 (I .u8 b)), (2, .vs 64 (I .i64 tb)), (7, .row 0), (9, .i .i64 (16 + (j : Int)))], [(0, .row 3 1 (16 + j) (I .i64 (sched j (first16 b))))]⟩ | skip
    have hl : (sched j (first16 b)).length = j + 16 := by rw [length_sched, length_first16]
    have hw : W32 (sched j (first16 b)) := W32_sched (W32_first16 hb) j
    have g0 := hw.get j
    have g1 := hw.get (1 + j)
    have g9 := hw.get (9 + j)
    have g14 := hw.get (14 + j)
    have hx1 := xr_range (xr (ror ((sched j (first16 b)).getD (1 + j) 0) 7) (ror ((sched j (first16 b)).getD (1 + j) 0) 18)) ((sched j (first16 b)).getD (1 + j) 0 / 2 ^ 3)
    have hx2 := xr_range (xr (ror ((sched j (first16 b)).getD (14 + j) 0) 17) (ror ((sched j (first16 b)).getD (14 + j) 0) 19)) ((sched j (first16 b)).getD (14 + j) 0 / 2 ^ 10)
    refine W_seq ?_
    refine wsr ?_
    refine wp rfl hC t_1 ?_
    refine wp rfl hC t_11 ?_
    refine WL_nil ?_
    refine W_cond rfl (by decide) (fun hc => ?_) (fun hc => ?_)
    ·
      replace hc := lss_t hc
      refine W_skip ?_
      refine W_seq ?_
      refine W_blk ?_
      refine wsr ?_
      refine wp rfl hC t_1 ?_
      refine wp rfl hC t_1 ?_
      refine wp rfl hC t_40 ?_
      refine wp rfl hC (ox_indexS hC (j := 1 + j) (.tmp rfl) (.tmp rfl) idx_77 t_w t_d t_33 t_2 rfl rfl) ?_
      refine wp rfl hC t_6m ?_
      refine wp rfl hC t_4 ?_
      refine WL_nil ?_
      refine wsr ?_
      refine wp rfl hC t_1 ?_
      refine wp rfl hC t_1 ?_
      refine wp rfl hC t_40 ?_
      refine wp rfl hC (ox_indexS hC (j := 14 + j) (.tmp rfl) (.tmp rfl) idx_77 t_w t_d t_33 t_2 rfl rfl) ?_
      refine wp rfl hC t_6m ?_
      refine wp rfl hC t_4 ?_
      refine WL_nil ?_
      refine wsr ?_
      refine wp rfl hC t_1 ?_
      refine wp rfl hC (oc_call hC (.cons (.tmp rfl) (.cons .cint .nil)) (.cons1 (.free t_0) (.cons1 (.free t_0) (.same t_0))) (drturn_c _ _ 7 rfl g1 (by decide)) glob_nil t_0 t_8 rfl rfl) ?_
      refine wp rfl hC t_1 ?_
      refine wp rfl hC (oc_call hC (.cons (.tmp rfl) (.cons .cint .nil)) (.cons1 (.free t_0) (.cons1 (.free t_0) (.same t_0))) (drturn_c _ _ 18 rfl g1 (by decide)) glob_nil t_0 t_8 rfl rfl) ?_
      refine wp rfl hC t_49 ?_
      refine wp rfl hC t_1 ?_
      refine wp rfl hC (oc_call hC (.cons (.tmp rfl) (.cons .cint .nil)) (.cons1 (.free t_0) (.cons1 (.free t_0) (.same t_0))) (rshift_c _ _ 3 rfl ⟨g1.1, by omega⟩ (by decide)) glob_nil t_0 t_8 rfl rfl) ?_
      refine wp rfl hC t_49 ?_
      refine wp rfl hC t_4 ?_
      refine WL_nil ?_
      refine wsr ?_
      refine wp rfl hC t_1 ?_
      refine wp rfl hC (oc_call hC (.cons (.tmp rfl) (.cons .cint .nil)) (.cons1 (.free t_0) (.cons1 (.free t_0) (.same t_0))) (drturn_c _ _ 17 rfl g14 (by decide)) glob_nil t_0 t_8 rfl rfl) ?_
      refine wp rfl hC t_1 ?_
      refine wp rfl hC (oc_call hC (.cons (.tmp rfl) (.cons .cint .nil)) (.cons1 (.free t_0) (.cons1 (.free t_0) (.same t_0))) (drturn_c _ _ 19 rfl g14 (by decide)) glob_nil t_0 t_8 rfl rfl) ?_
      refine wp rfl hC t_49 ?_
      refine wp rfl hC t_1 ?_
      refine wp rfl hC (oc_call hC (.cons (.tmp rfl) (.cons .cint .nil)) (.cons1 (.free t_0) (.cons1 (.free t_0) (.same t_0))) (rshift_c _ _ 10 rfl ⟨g14.1, by omega⟩ (by decide)) glob_nil t_0 t_8 rfl rfl) ?_
      refine wp rfl hC t_49 ?_
      refine wp rfl hC t_4 ?_
      refine WL_nil ?_
      refine W_drawD hC ?_
      refine WD_cons (.plain rfl t_1) ?_
      refine WD_cons (.plain rfl t_1) ?_
      refine WD_cons (.plain rfl t_1) ?_
      refine WD_cons (.plain rfl t_40) ?_
      refine WD_cons (.plain rfl (ox_indexS hC (j := j) (.tmp rfl) (.tmp rfl) idx_77 t_w t_d t_33 t_2 rfl rfl)) ?_
      refine WD_cons (.plain rfl t_6m) ?_
      refine WD_cons (.plain rfl t_1) ?_
      refine WD_cons (.plain rfl t_3p) ?_
      refine WD_cons (.plain rfl t_1) ?_
      refine WD_cons (.plain rfl t_1) ?_
      refine WD_cons (.plain rfl t_40) ?_
      refine WD_cons (.plain rfl (ox_indexS hC (j := 9 + j) (.tmp rfl) (.tmp rfl) idx_77 t_w t_d t_33 t_2 rfl rfl)) ?_
      refine WD_cons (.plain rfl t_6m) ?_
      refine WD_cons (.plain rfl t_3p) ?_
      refine WD_cons (.plain rfl t_1) ?_
      refine WD_cons (.plain rfl t_3p) ?_
      refine WD_cons (.plain rfl t_4s) ?_
      refine WD_cons (.plain rfl t_42) ?_
      refine WD_cons (.plain rfl t_6v) ?_
      refine WD_cons (.plain rfl t_4) ?_
      refine WD_nil t_x ?_
      refine W_region ?_
      refine wp rfl hC t_1 ?_
      refine wp rfl hC t_36 ?_
      refine wp rfl hC t_4 ?_
      refine WL_nil ?_
      exact ⟨(j + 1), (by omega), (weak (fun k => bif Nat.beq k 0 then 1 else k) (.cons rfl t_30 t_0 (.cons rfl t_30 t_0 (.cons rfl t_30 t_0 (.cons rfl t_5 t_6 (.cons rfl (congrArg (AV.i _) (by omega)) trivial .nil))))) (.cons rfl (renRow rfl (sched_step (by omega)).symm) rfl t_0 .nil) rfl rfl rfl), (by omega)⟩
    ·
      replace hc := lss_f hc
      refine W_exit ?_
      refine wsr ?_
      obtain rfl : j = 48 := by omega
      rw [words_eq]
      have hlw := length_words b
      have hww := W32_words hb
      refine wp rfl hC t_1 ?_
      refine wp rfl hC (ox_indexS hC (j := 0) (.tmp rfl) .cint idx_77 rfl t_d t_33 t_2 rfl rfl) ?_
      refine wp rfl hC t_6m ?_
      refine wp rfl hC t_4 ?_
      refine WL_nil ?_
      refine wsr ?_
      refine wp rfl hC t_1 ?_
      refine wp rfl hC (ox_indexS hC (j := 1) (.tmp rfl) .cint idx_77 rfl t_d t_33 t_2 rfl rfl) ?_
      refine wp rfl hC t_6m ?_
      refine wp rfl hC t_4 ?_
      refine WL_nil ?_
      refine wsr ?_
      refine wp rfl hC t_1 ?_
      refine wp rfl hC (ox_indexS hC (j := 2) (.tmp rfl) .cint idx_77 rfl t_d t_33 t_2 rfl rfl) ?_
      refine wp rfl hC t_6m ?_
      refine wp rfl hC t_4 ?_
      refine WL_nil ?_
      refine wsr ?_
      refine wp rfl hC t_1 ?_
      refine wp rfl hC (ox_indexS hC (j := 3) (.tmp rfl) .cint idx_77 rfl t_d t_33 t_2 rfl rfl) ?_
      refine wp rfl hC t_6m ?_
      refine wp rfl hC t_4 ?_
      refine WL_nil ?_
      refine wsr ?_
      refine wp rfl hC t_1 ?_
      refine wp rfl hC (ox_indexS hC (j := 4) (.tmp rfl) .cint idx_77 rfl t_d t_33 t_2 rfl rfl) ?_
      refine wp rfl hC t_6m ?_
      refine wp rfl hC t_4 ?_
      refine WL_nil ?_
      refine wsr ?_
      refine wp rfl hC t_1 ?_
      refine wp rfl hC (ox_indexS hC (j := 5) (.tmp rfl) .cint idx_77 rfl t_d t_33 t_2 rfl rfl) ?_
      refine wp rfl hC t_6m ?_
      refine wp rfl hC t_4 ?_
      refine WL_nil ?_
      refine wsr ?_
      refine wp rfl hC t_1 ?_
      refine wp rfl hC (ox_indexS hC (j := 6) (.tmp rfl) .cint idx_77 rfl t_d t_33 t_2 rfl rfl) ?_
      refine wp rfl hC t_6m ?_
      refine wp rfl hC t_4 ?_
      refine WL_nil ?_
      refine wsr ?_
      refine wp rfl hC t_1 ?_
      refine wp rfl hC (ox_indexS hC (j := 7) (.tmp rfl) .cint idx_77 rfl t_d t_33 t_2 rfl rfl) ?_
      refine wp rfl hC t_6m ?_
      refine wp rfl hC t_4 ?_
      refine WL_nil ?_
      refine W_seq ?_
      refine wsr ?_
      refine wp rfl hC t_k ?_
      refine WL_nil ?_
      refine W_blk ?_
      refine W_loopW (fun (ζ : Nat) => ⟨1, [(0, .vs 8 (I .i64 s)), (1, .vs 64 (I .u8 b)), (2, .vs 64 (I .i64 tb)), (7, .row 0), (14, .i .i64 ((rounds tb (wordsOf b) ζ s).getD 0 0)), (15, .i .i64 ((rounds tb (wordsOf b) ζ s).getD 1 0)), (16, .i .i64 ((rounds tb (wordsOf b) ζ s).getD 2 0)), (17, .i .i64 ((rounds tb (wordsOf b) ζ s).getD 3 0)), (18, .i .i64 ((rounds tb (wordsOf b) ζ s).getD 4 0)), (19, .i .i64 ((rounds tb (wordsOf b) ζ s).getD 5 0)), (20, .i .i64 ((rounds tb (wordsOf b) ζ s).getD 6 0)), (21, .i .i64 ((rounds tb (wordsOf b) ζ s).getD 7 0)), (22, .i .i64 ζ)], [(0, .row 3 1 64 (I .i64 (wordsOf b)))]⟩) (fun ζ => ζ ≤ 64) (fun ζ => 64 - ζ) (0) (by simp) (weak (fun k => k) (.cons rfl t_30 t_0 (.cons rfl t_30 t_0 (.cons rfl t_30 t_0 (.cons rfl t_5 t_6 (.cons rfl (congrArg (AV.i _) (by rw [rounds_zero])) trivial (.cons rfl (congrArg (AV.i _) (by rw [rounds_zero])) trivial (.cons rfl (congrArg (AV.i _) (by rw [rounds_zero])) trivial (.cons rfl (congrArg (AV.i _) (by rw [rounds_zero])) trivial (.cons rfl (congrArg (AV.i _) (by rw [rounds_zero])) trivial (.cons rfl (congrArg (AV.i _) (by rw [rounds_zero])) trivial (.cons rfl (congrArg (AV.i _) (by rw [rounds_zero])) trivial (.cons rfl (congrArg (AV.i _) (by rw [rounds_zero])) trivial (.cons rfl rfl trivial .nil))))))))))))) (.cons rfl (renRow rfl rfl) rfl t_0 .nil) rfl rfl rfl) ?_
      intro i hR
      replace hR : i ≤ 64 := hR
      first | show W _ _ _ ⟨1, [(0, .vs 8 (I .i64 s)), (1, .vs 64 (I .u8 b)), (2, .vs 64 (I .i64 tb)), (7, .row 0), (14, .i .i64 ((rounds tb (wordsOf b) i s).getD 0 0)), (15, .i .i64 ((rounds tb (wordsOf b) i s).getD 1 0)), (16, .i .i64 ((rounds tb (wordsOf b) i s).getD 2 0)), (17, .i .i64 ((rounds tb (wordsOf b) i s).getD 3 0)), (18, .i .i64 ((rounds tb (wordsOf b) i s).getD 4 0)), (19, .i .i64 ((rounds tb (wordsOf b) i s).getD 5 0)), (20, .i .i64 ((rounds tb (wordsOf b) i s).getD 6 0)), (21, .i .i64 ((rounds tb (wordsOf b) i s).getD 7 0)), (22, .i .i64 i)], [(0, .row 3 1 64 (I .i64 (wordsOf b)))]⟩ | skip
      have hr := W32_rounds (ks := tb) (ws := wordsOf b) hs i
      have r0 := hr.get 0
      have r1 := hr.get 1
      have r2 := hr.get 2
      have r3 := hr.get 3
      have r4 := hr.get 4
      have r5 := hr.get 5
      have r6 := hr.get 6
      have r7 := hr.get 7
      have hk := htb.get i
      have hwi := hww.get i
      have hT := tW_range (tb.getD i 0) ((wordsOf b).getD i 0) (rounds tb (wordsOf b) i s)
      have hU := uW_range (rounds tb (wordsOf b) i s)
      refine W_seq ?_
      refine wsr ?_
      refine wp rfl hC t_1 ?_
      refine wp rfl hC t_11 ?_
      refine WL_nil ?_
      refine W_cond rfl (by decide) (fun hc => ?_) (fun hc => ?_)
      ·
        replace hc := lss_t hc
        refine W_skip ?_
        refine W_seq ?_
        refine W_blk ?_
        refine W_seq ?_
        refine W_drawD hC ?_
        refine WD_cons (.plain rfl t_1) ?_
        refine WD_cons (.plain rfl t_1) ?_
        refine WD_cons (.plain rfl (oc_call hC (.cons (.tmp rfl) (.cons .cint .nil)) (.cons1 (.free t_0) (.cons1 (.free t_0) (.same t_0))) (drturn_c _ _ 6 rfl r4 (by decide)) glob_nil t_0 t_8 rfl rfl)) ?_
        refine WD_cons (.plain rfl t_1) ?_
        refine WD_cons (.plain rfl (oc_call hC (.cons (.tmp rfl) (.cons .cint .nil)) (.cons1 (.free t_0) (.cons1 (.free t_0) (.same t_0))) (drturn_c _ _ 11 rfl r4 (by decide)) glob_nil t_0 t_8 rfl rfl)) ?_
        refine WD_cons (.plain rfl t_49) ?_
        refine WD_cons (.plain rfl t_1) ?_
        refine WD_cons (.plain rfl (oc_call hC (.cons (.tmp rfl) (.cons .cint .nil)) (.cons1 (.free t_0) (.cons1 (.free t_0) (.same t_0))) (drturn_c _ _ 25 rfl r4 (by decide)) glob_nil t_0 t_8 rfl rfl)) ?_
        refine WD_cons (.plain rfl t_49) ?_
        have hB := xr_range (xr (ror ((rounds tb (wordsOf b) i s).getD 4 0) 6) (ror ((rounds tb (wordsOf b) i s).getD 4 0) 11)) (ror ((rounds tb (wordsOf b) i s).getD 4 0) 25)
        refine WD_cons (.plain rfl t_3p) ?_
        refine WD_cons (.plain rfl t_1) ?_
        refine WD_cons (.plain rfl t_1) ?_
        refine WD_cons (.plain rfl t_58) ?_
        refine WD_cons (.plain rfl t_1) ?_
        refine WD_cons (.plain rfl (oc_bin hC rfl .cint (.tmp rfl) t_1o rfl rfl)) ?_
        refine WD_cons (.plain rfl t_1) ?_
        refine WD_cons (.plain rfl t_58) ?_
        refine WD_cons (.plain rfl t_49) ?_
        have hC2 := xr_range (an ((rounds tb (wordsOf b) i s).getD 4 0) ((rounds tb (wordsOf b) i s).getD 5 0)) (an (4294967295 - (rounds tb (wordsOf b) i s).getD 4 0) ((rounds tb (wordsOf b) i s).getD 6 0))
        refine WD_cons (.plain rfl t_3p) ?_
        refine WD_cons (.plain rfl t_1) ?_
        refine WD_cons (.plain rfl t_1) ?_
        refine WD_cons (.plain rfl t_6g) ?_
        refine WD_cons (.plain rfl t_6m) ?_
        refine WD_cons (.plain rfl t_3p) ?_
        refine WD_cons (.plain rfl t_1) ?_
        refine WD_cons (.plain rfl t_1) ?_
        refine WD_cons (.plain rfl t_6g) ?_
        refine WD_cons (.plain rfl t_6m) ?_
        refine WD_cons (.plain rfl t_3p) ?_
        refine WD_cons (.plain rfl t_4s) ?_
        rw [tW_eq]
        refine WD_cons (.plain rfl t_4) ?_
        refine WD_nil t_x ?_
        refine wsr ?_
        refine wp rfl hC t_1 ?_
        refine wp rfl hC (oc_call hC (.cons (.tmp rfl) (.cons .cint .nil)) (.cons1 (.free t_0) (.cons1 (.free t_0) (.same t_0))) (drturn_c _ _ 2 rfl r0 (by decide)) glob_nil t_0 t_8 rfl rfl) ?_
        refine wp rfl hC t_1 ?_
        refine wp rfl hC (oc_call hC (.cons (.tmp rfl) (.cons .cint .nil)) (.cons1 (.free t_0) (.cons1 (.free t_0) (.same t_0))) (drturn_c _ _ 13 rfl r0 (by decide)) glob_nil t_0 t_8 rfl rfl) ?_
        refine wp rfl hC t_49 ?_
        refine wp rfl hC t_1 ?_
        refine wp rfl hC (oc_call hC (.cons (.tmp rfl) (.cons .cint .nil)) (.cons1 (.free t_0) (.cons1 (.free t_0) (.same t_0))) (drturn_c _ _ 22 rfl r0 (by decide)) glob_nil t_0 t_8 rfl rfl) ?_
        refine wp rfl hC t_49 ?_
        refine wp rfl hC t_1 ?_
        refine wp rfl hC t_1 ?_
        refine wp rfl hC t_58 ?_
        refine wp rfl hC t_1 ?_
        refine wp rfl hC t_1 ?_
        refine wp rfl hC t_58 ?_
        refine wp rfl hC t_49 ?_
        refine wp rfl hC t_1 ?_
        refine wp rfl hC t_1 ?_
        refine wp rfl hC t_58 ?_
        refine wp rfl hC t_49 ?_
        have hB2 := xr_range (xr (ror ((rounds tb (wordsOf b) i s).getD 0 0) 2) (ror ((rounds tb (wordsOf b) i s).getD 0 0) 13)) (ror ((rounds tb (wordsOf b) i s).getD 0 0) 22)
        have hM := xr_range (xr (an ((rounds tb (wordsOf b) i s).getD 0 0) ((rounds tb (wordsOf b) i s).getD 1 0)) (an ((rounds tb (wordsOf b) i s).getD 0 0) ((rounds tb (wordsOf b) i s).getD 2 0))) (an ((rounds tb (wordsOf b) i s).getD 1 0) ((rounds tb (wordsOf b) i s).getD 2 0))
        refine wp rfl hC t_3p ?_
        refine wp rfl hC t_4s ?_
        rw [uW_eq]
        refine wp rfl hC t_4 ?_
        refine WL_nil ?_
        refine wsr ?_
        refine wp rfl hC t_1 ?_
        refine wp rfl hC t_4 ?_
        refine WL_nil ?_
        refine wsr ?_
        refine wp rfl hC t_1 ?_
        refine wp rfl hC t_4 ?_
        refine WL_nil ?_
        refine wsr ?_
        refine wp rfl hC t_1 ?_
        refine wp rfl hC t_4 ?_
        refine WL_nil ?_
        refine wsr ?_
        refine wp rfl hC t_1 ?_
        refine wp rfl hC t_1 ?_
        refine wp rfl hC t_3p ?_
        refine wp rfl hC t_4s ?_
        refine wp rfl hC t_4 ?_
        refine WL_nil ?_
        refine wsr ?_
        refine wp rfl hC t_1 ?_
        refine wp rfl hC t_4 ?_
        refine WL_nil ?_
        refine wsr ?_
        refine wp rfl hC t_1 ?_
        refine wp rfl hC t_4 ?_
        refine WL_nil ?_
        refine wsr ?_
        refine wp rfl hC t_1 ?_
        refine wp rfl hC t_4 ?_
        refine WL_nil ?_
        refine W_region ?_
        refine wp rfl hC t_1 ?_
        refine wp rfl hC t_1 ?_
        refine wp rfl hC t_3p ?_
        refine wp rfl hC t_4s ?_
        refine wp rfl hC t_4 ?_
        refine WL_nil ?_
        refine W_region ?_
        refine wp rfl hC t_1 ?_
        refine wp rfl hC t_36 ?_
        refine wp rfl hC t_4 ?_
        refine WL_nil ?_
        exact ⟨(i + 1), (by omega), (weak (fun k => k) (.cons rfl t_30 t_0 (.cons rfl t_30 t_0 (.cons rfl t_30 t_0 (.cons rfl t_5 t_6 (.cons rfl (congrArg (AV.i _) rounds_get.1) trivial (.cons rfl (congrArg (AV.i _) rounds_get.2.1) trivial (.cons rfl (congrArg (AV.i _) rounds_get.2.2.1) trivial (.cons rfl (congrArg (AV.i _) rounds_get.2.2.2.1) trivial (.cons rfl (congrArg (AV.i _) rounds_get.2.2.2.2.1) trivial (.cons rfl (congrArg (AV.i _) rounds_get.2.2.2.2.2.1) trivial (.cons rfl (congrArg (AV.i _) rounds_get.2.2.2.2.2.2.1) trivial (.cons rfl (congrArg (AV.i _) rounds_get.2.2.2.2.2.2.2) trivial (.cons rfl (congrArg (AV.i _) (by omega)) trivial .nil))))))))))))) (.cons rfl (renRow rfl rfl) rfl t_0 .nil) rfl rfl rfl), (by omega)⟩
      ·
        replace hc := lss_f hc
        refine W_exit ?_
        refine wsr ?_
        obtain rfl : i = 64 := by omega
        have hlr := length_rounds tb (wordsOf b) s hs8 64
        have hr := W32_rounds (ks := tb) (ws := wordsOf b) hs 64
        refine wp rfl hC t_1 ?_
        refine wp rfl hC t_1 ?_
        refine wp rfl hC t_1 ?_
        refine wp rfl hC t_1 ?_
        refine wp rfl hC t_1 ?_
        refine wp rfl hC t_1 ?_
        refine wp rfl hC t_1 ?_
        refine wp rfl hC t_1 ?_
        refine wp rfl hC (ox_lit hC (.cons (.tmp rfl) (.cons (.tmp rfl) (.cons (.tmp rfl) (.cons (.tmp rfl) (.cons (.tmp rfl) (.cons (.tmp rfl) (.cons (.tmp rfl) (.cons (.tmp rfl) .nil)))))))) Tryd.underlying77 cells_3 zero_3 rfl (by decide) rfl rfl t_5 rfl rfl) ?_
        rw [show [AV.i .i64 ((rounds tb (wordsOf b) 64 s).getD 0 0), AV.i .i64 ((rounds tb (wordsOf b) 64 s).getD 1 0), AV.i .i64 ((rounds tb (wordsOf b) 64 s).getD 2 0), AV.i .i64 ((rounds tb (wordsOf b) 64 s).getD 3 0), AV.i .i64 ((rounds tb (wordsOf b) 64 s).getD 4 0), AV.i .i64 ((rounds tb (wordsOf b) 64 s).getD 5 0), AV.i .i64 ((rounds tb (wordsOf b) 64 s).getD 6 0), AV.i .i64 ((rounds tb (wordsOf b) 64 s).getD 7 0)] = I .i64 (rounds tb (wordsOf b) 64 s) from (congrArg (I .i64) (list8 hlr)).symm]
        refine wp rfl hC t_4 ?_
        refine WL_nil ?_
        refine wsr ?_
        refine wp rfl hC t_v ?_
        refine WL_nil ?_
        refine W_seq ?_
        refine wsr ?_
        refine wp rfl hC t_k ?_
        refine WL_nil ?_
        refine W_blk ?_
        refine W_weak (weak_nil (t := 26) (e := 3) (sz := 1) rfl) ?_
        refine W_loopW (fun (ζ : Nat) => ⟨2, [(0, .vs 8 (I .i64 s)), (25, .vs 8 (I .i64 (rounds tb (wordsOf b) 64 s))), (26, .row 1), (27, .i .i64 ζ)], [(1, .row 3 1 ζ (I .i64 (addQ s (rounds tb (wordsOf b) 64 s) ζ)))]⟩) (fun ζ => ζ ≤ 8) (fun ζ => 8 - ζ) (0) (by simp) (weak (fun k => k) (.cons rfl t_30 t_0 (.cons rfl t_30 t_0 (.cons rfl t_5 t_6 (.cons rfl rfl trivial .nil)))) (.cons rfl (renRow rfl addQ_zero) rfl t_0 .nil) rfl rfl rfl) ?_
        intro i hR
        replace hR : i ≤ 8 := hR
        first | show W _ _ _ ⟨2, [(0, .vs 8 (I .i64 s)), (25, .vs 8 (I .i64 (rounds tb (wordsOf b) 64 s))), (26, .row 1), (27, .i .i64 i)], [(1, .row 3 1 i (I .i64 (addQ s (rounds tb (wordsOf b) 64 s) i)))]⟩ | skip
        have ha := hs.get i
        have hb2 := hr.get i
        refine W_seq ?_
        refine wsr ?_
        refine wp rfl hC t_1 ?_
        refine wp rfl hC t_11 ?_
        refine WL_nil ?_
        refine W_cond rfl (by decide) (fun hc => ?_) (fun hc => ?_)
        ·
          replace hc := lss_t hc
          refine W_skip ?_
          refine W_seq ?_
          refine W_blk ?_
          refine W_drawD hC ?_
          refine WD_cons (.plain rfl t_1) ?_
          refine WD_cons (.plain rfl t_1) ?_
          refine WD_cons (.plain rfl t_1) ?_
          refine WD_cons (.plain rfl t_6g) ?_
          refine WD_cons (.plain rfl t_6m) ?_
          refine WD_cons (.plain rfl t_1) ?_
          refine WD_cons (.plain rfl t_1) ?_
          refine WD_cons (.plain rfl t_6g) ?_
          refine WD_cons (.plain rfl t_6m) ?_
          refine WD_cons (.plain rfl t_3p) ?_
          refine WD_cons (.plain rfl t_4s) ?_
          refine WD_cons (.plain rfl t_42) ?_
          refine WD_cons (.plain rfl t_6v) ?_
          refine WD_cons (.plain rfl t_4) ?_
          refine WD_nil t_x ?_
          refine W_region ?_
          refine wp rfl hC t_1 ?_
          refine wp rfl hC t_36 ?_
          refine wp rfl hC t_4 ?_
          refine WL_nil ?_
          exact ⟨(i + 1), (by omega), (weak (fun k => bif Nat.beq k 1 then 2 else k) (.cons rfl t_30 t_0 (.cons rfl t_30 t_0 (.cons rfl t_5 t_6 (.cons rfl t_2y trivial .nil)))) (.cons rfl (renRow rfl (addQ_succ.symm.trans (by rw [Int.add_comm]))) rfl t_0 .nil) rfl rfl rfl), (by omega)⟩
        ·
          replace hc := lss_f hc
          refine W_exit ?_
          refine wsr ?_
          obtain rfl : i = 8 := by omega
          rw [addQ_end]
          refine wp rfl hC t_1 ?_
          refine wp rfl hC t_4 ?_
          refine WL_nil ?_
          refine W_ret ?_
          exact fin1 (.cons (.tmp rfl) .nil) rfl rfl (inSL_I _)
set_option maxRecDepth 20000 in
set_option maxHeartbeats 4000000 in
theorem rof0_c (M : List Int) (hn : M.length ≤ 1099511627776) (hM8 : B8 M) : FnC Tryd.prog 46 [] [.vs M.length (I .u8 M)] [] [(0, .row 5 1 32 (I .u8 (sha tbl M)))] (.row 0) := by
  have hpz := padZ_lt M.length
  have hlq := len_pad M.length
  have hlp := length_padded M
  have hP := B8_padded hM8
  refine FnC.introR (N0 := 0) (T := 66) (E := [(0, .vs M.length (I .u8 M))]) Tryd.func46 rfl (by decide) mix rfl rfl rfl (by simp) rfl ⟨t_b, trivial⟩ (by simp) (by
        intro S ha hr hw
        have s0 : S 0 := hw 0 t_17 t_5
        refine ⟨by first | exact inSL_I _ | simp [s0], fun k b hm => ?_⟩
        simp only [List.mem_cons, Prod.mk.injEq, List.not_mem_nil, or_false] at hm
        rcases hm with ⟨rfl, rfl⟩
        · exact ⟨s0, by first | exact inSL_I _ | simp [s0]⟩) (fun F n0 X w ρ hC hro => ?_)
  refine wsr ?_
  refine wp rfl hC t_v ?_
  refine WL_nil ?_
  refine wsr ?_
  refine wp rfl hC t_4r ?_
  refine wp rfl hC t_1 ?_
  refine wp rfl hC (ox_append (n' := M.length) (cs' := I .u8 M) hC (.tmp rfl) (.tmp rfl) t_35 t_a t_r Tryd.underlying22 cells_5 bytes_5 zero_5 rfl (by decide) t_15 t_t (Nat.zero_add _) ((app_I (us := []) rfl).trans rfl) t_n (by omega) rfl rfl) ?_
  refine wp rfl hC t_1 ?_
  refine wp rfl hC t_32 ?_
  refine wp rfl hC (oc_callN hC (.cons (.tmp rfl) .nil) (.cons1 (.free t_0) (.same t_0)) (rpad_c _ (by omega)) glob_nil t_0 rfl t_q rfl rfl) ?_
  refine wp rfl hC t_8a ?_
  refine wp rfl hC t_4 ?_
  refine WL_nil ?_
  refine wsr ?_
  refine wp rfl hC (oc_callN hC .nil (.same t_0) (rstart_c) glob_nil t_0 rfl t_q rfl rfl) ?_
  refine wp rfl hC t_4 ?_
  refine WL_nil ?_
  refine wsr ?_
  refine wp rfl hC (oc_callN hC .nil (.same t_0) (rtable_c) glob_nil t_0 rfl t_q rfl rfl) ?_
  refine wp rfl hC t_4 ?_
  refine WL_nil ?_
  refine W_seq ?_
  refine wsr ?_
  refine wp rfl hC t_k ?_
  refine WL_nil ?_
  refine W_blk ?_
  refine W_loopW (fun (ζ : Nat) => ⟨7, [(3, .row 3), (4, .row 6), (5, .row 5), (6, .i .i64 (64 * (ζ : Int)))], [(3, .row 5 1 (64 * nblk M.length) (I .u8 (paddedM M))), (5, .row 3 1 64 (I .i64 tbl)), (6, .row 3 1 8 (I .i64 (sumAt tbl (paddedM M) start8 ζ)))]⟩) (fun ζ => ζ ≤ nblk M.length) (fun ζ => nblk M.length - ζ) (0) (Nat.zero_le _) (weak (fun k => bif Nat.beq k 6 then 4 else k) (.cons rfl t_5 t_6 (.cons rfl t_5 t_6 (.cons rfl t_5 t_6 (.cons rfl rfl trivial .nil)))) (.cons rfl t_g rfl t_0 (.cons rfl t_g rfl t_0 (.cons rfl (renRow rfl sumAt_zero) rfl t_0 .nil))) rfl rfl rfl) ?_
  intro i hR
  replace hR : i ≤ nblk M.length := hR
  first | show W _ _ _ ⟨7, [(3, .row 3), (4, .row 6), (5, .row 5), (6, .i .i64 (64 * (i : Int)))], [(3, .row 5 1 (64 * nblk M.length) (I .u8 (paddedM M))), (5, .row 3 1 64 (I .i64 tbl)), (6, .row 3 1 8 (I .i64 (sumAt tbl (paddedM M) start8 i)))]⟩ | skip
  have hsl := length_sumAt (ks := tbl) (m := paddedM M) (s := start8) rfl i
  have hsw := W32_sumAt (ks := tbl) (m := paddedM M) W32_start8 i
  refine W_seq ?_
  refine wsr ?_
  refine wp rfl hC t_1 ?_
  refine wp rfl hC t_1 ?_
  refine wp rfl hC t_32 ?_
  refine wp rfl hC t_1e ?_
  refine WL_nil ?_
  refine W_cond rfl (by decide) (fun hc => ?_) (fun hc => ?_)
  ·
    replace hc := lss_t hc
    refine W_skip ?_
    refine W_seq ?_
    refine W_blk ?_
    refine W_region ?_
    refine wp rfl hC t_1 ?_
    refine wp rfl hC t_1 ?_
    refine wp rfl hC t_1 ?_
    refine wp rfl hC t_1 ?_
    refine wp rfl hC t_36 ?_
    refine wp rfl hC (ox_cutS (u' := .sl 3 (64 * i) 64) hC (.tmp rfl) (.yes (n := 64 * i) (.tmp rfl) t_w) (.yes (n := 64 * i + 64) (.tmp rfl) t_w) idx_22 t_3w t_2 t_2 (by congr 1 <;> omega) rfl rfl) ?_
    refine wp rfl hC t_1 ?_
    refine wp rfl hC (oc_callN hC (.cons (.tmp rfl) (.cons (.tmp rfl) (.cons (.tmp rfl) .nil))) (.cons1 t_31 (.cons1 t_31 (.cons1 t_31 (.same t_0)))) (drblock_c _ _ _ hsl t_7 rfl hsw (B8_cut hP _ _) W32_tbl) glob_nil t_0 rfl t_q rfl rfl) ?_
    refine wp rfl hC t_4 ?_
    refine WL_nil ?_
    refine W_region ?_
    refine wp rfl hC t_1 ?_
    refine wp rfl hC t_36 ?_
    refine wp rfl hC t_4 ?_
    refine WL_nil ?_
    exact ⟨(i + 1), (by omega), (weak (fun k => bif Nat.beq k 6 then 7 else k) (.cons rfl t_5 t_6 (.cons rfl t_5 t_6 (.cons rfl t_5 t_6 (.cons rfl (congrArg (AV.i _) (by omega)) trivial .nil)))) (.cons rfl t_g rfl t_0 (.cons rfl t_g rfl t_0 (.cons rfl (renRow rfl sumAt_succ) rfl t_0 .nil))) rfl rfl rfl), (by omega)⟩
  ·
    replace hc := lss_f hc
    obtain rfl : i = nblk M.length := by omega
    refine W_exit ?_
    refine wsr ?_
    refine wp rfl hC t_v ?_
    refine WL_nil ?_
    refine W_seq ?_
    refine wsr ?_
    refine wp rfl hC t_k ?_
    refine WL_nil ?_
    refine W_blk ?_
    refine W_weak (weak_nil (t := 7) (e := 5) (sz := 1) rfl) ?_
    refine W_loopW (fun (ζ : Nat) => ⟨8, [(4, .row 6), (7, .row 7), (8, .i .i64 ζ)], [(6, .row 3 1 8 (I .i64 (sumAt tbl (paddedM M) start8 (nblk M.length)))), (7, .row 5 1 (4 * ζ) (I .u8 (outQ (sumAt tbl (paddedM M) start8 (nblk M.length)) ζ)))]⟩) (fun ζ => ζ ≤ 8) (fun ζ => 8 - ζ) (0) (by simp) (weak (fun k => k) (.cons rfl t_5 t_6 (.cons rfl t_5 t_6 (.cons rfl rfl trivial .nil))) (.cons rfl t_g rfl t_0 (.cons rfl (renRow rfl outQ_zero) rfl t_0 .nil)) rfl rfl rfl) ?_
    intro i hR
    replace hR : i ≤ 8 := hR
    first | show W _ _ _ ⟨8, [(4, .row 6), (7, .row 7), (8, .i .i64 i)], [(6, .row 3 1 8 (I .i64 (sumAt tbl (paddedM M) start8 (nblk M.length)))), (7, .row 5 1 (4 * i) (I .u8 (outQ (sumAt tbl (paddedM M) start8 (nblk M.length)) i)))]⟩ | skip
    have hsl := length_sumAt (ks := tbl) (m := paddedM M) (s := start8) rfl (nblk M.length)
    have hsw := (W32_sumAt (ks := tbl) (m := paddedM M) W32_start8 (nblk M.length)).get i
    refine W_seq ?_
    refine wsr ?_
    refine wp rfl hC t_1 ?_
    refine wp rfl hC t_11 ?_
    refine WL_nil ?_
    refine W_cond rfl (by decide) (fun hc => ?_) (fun hc => ?_)
    ·
      replace hc := lss_t hc
      refine W_skip ?_
      refine W_seq ?_
      refine W_blk ?_
      refine W_drawD hC ?_
      refine WD_cons (.plain rfl t_1) ?_
      refine WD_cons (.plain rfl t_1) ?_
      refine WD_cons (.plain rfl t_1) ?_
      refine WD_cons (.plain rfl t_6g) ?_
      refine WD_cons (.plain rfl t_6m) ?_
      refine WD_cons (.plain rfl t_4j) ?_
      refine WD_cons (.plain rfl (oc_conv hC (.tmp rfl) rfl Tryd.underlying5 (r := (sumAt tbl (paddedM M) start8 (nblk M.length)).getD i 0 / 16777216 % 256) (by rw [u8_wrap]) rfl rfl)) ?_
      refine WD_cons (.plain rfl t_1) ?_
      refine WD_cons (.plain rfl t_1) ?_
      refine WD_cons (.plain rfl t_6g) ?_
      refine WD_cons (.plain rfl t_6m) ?_
      refine WD_cons (.plain rfl t_4j) ?_
      refine WD_cons (.plain rfl t_45) ?_
      refine WD_cons (.plain rfl (oc_conv hC (.tmp rfl) rfl Tryd.underlying5 (r := (sumAt tbl (paddedM M) start8 (nblk M.length)).getD i 0 / 65536 % 256) (u8_conv (by omega)) rfl rfl)) ?_
      refine WD_cons (.plain rfl t_1) ?_
      refine WD_cons (.plain rfl t_1) ?_
      refine WD_cons (.plain rfl t_6g) ?_
      refine WD_cons (.plain rfl t_6m) ?_
      refine WD_cons (.plain rfl t_4j) ?_
      refine WD_cons (.plain rfl t_45) ?_
      refine WD_cons (.plain rfl (oc_conv hC (.tmp rfl) rfl Tryd.underlying5 (r := (sumAt tbl (paddedM M) start8 (nblk M.length)).getD i 0 / 256 % 256) (u8_conv (by omega)) rfl rfl)) ?_
      refine WD_cons (.plain rfl t_1) ?_
      refine WD_cons (.plain rfl t_1) ?_
      refine WD_cons (.plain rfl t_6g) ?_
      refine WD_cons (.plain rfl t_6m) ?_
      refine WD_cons (.plain rfl t_45) ?_
      refine WD_cons (.plain rfl (oc_conv hC (.tmp rfl) rfl Tryd.underlying5 (r := (sumAt tbl (paddedM M) start8 (nblk M.length)).getD i 0 % 256) (u8_conv (by omega)) rfl rfl)) ?_
      refine WD_cons (.plain rfl t_60) ?_
      refine WD_cons (.plain rfl (ox_append hC (.tmp rfl) (.tmp rfl) t_35 t_a t_r Tryd.underlying22 cells_5 bytes_5 zero_5 rfl (by decide) t_15 t_t t_16 app_4 t_n (by omega) rfl rfl)) ?_
      refine WD_cons (.plain rfl t_4) ?_
      refine WD_nil t_x ?_
      refine W_region ?_
      refine wp rfl hC t_1 ?_
      refine wp rfl hC t_36 ?_
      refine wp rfl hC t_4 ?_
      refine WL_nil ?_
      exact ⟨(i + 1), (by omega), (weak (fun k => bif Nat.beq k 7 then 8 else k) (.cons rfl t_5 t_6 (.cons rfl t_5 t_6 (.cons rfl t_2y trivial .nil))) (.cons rfl t_g rfl t_0 (.cons rfl (renRow (by omega) outQ_succ.symm) rfl t_0 .nil)) rfl rfl rfl), (by omega)⟩
    ·
      replace hc := lss_f hc
      obtain rfl : i = 8 := by omega
      rw [outQ_end]
      refine W_exit ?_
      refine wsr ?_
      refine wp rfl hC t_1 ?_
      refine wp rfl hC t_4 ?_
      refine WL_nil ?_
      refine W_ret ?_
      exact fin1 (.cons (.tmp rfl) .nil) rfl (by unfold sha; rfl) (inSL_I _)
theorem rof_c (n : Nat) (M : List Int) (hM : M.length = n) (hn : n ≤ 1099511627776) (hM8 : B8 M) : FnC Tryd.prog 46 [] [.vs n (I .u8 M)] [] [(0, .row 5 1 32 (I .u8 (sha tbl M)))] (.row 0) := by subst hM; exact rof0_c M hn hM8
end Go.Proofs.YtfngpppghlbanaaDoor
