/- Own work, printed by a program of this claim: walks through functions of the program. -/
import Derived.Test.YtfngpppghlbanaaDoorW5
import Derived.Test.YtfngpppghlbanaaDoorProg
import Derived.KernelRfl
set_option linter.unusedSimpArgs false
set_option linter.unusedVariables false
namespace Go.Proofs.YtfngpppghlbanaaDoor
open Go.Sk Go.RowKit
attribute [local simp] AV.inSL AV.inS inSL_I Blk.inS Blk.cs AV.novs AV.novsL novsL_I AV.ren AV.cells AV.one lk tuAV
theorem bld_93 : bldOK Tryd.prog 93 = true := by kernel_rfl
theorem bld_97 : bldOK Tryd.prog 97 = true := by kernel_rfl
theorem cells_50 : Tryd.prog.cellsOf 50 = 1 := by kernel_rfl
theorem elt_93 : elt Tryd.prog 93 = some (2, false, 1) := by kernel_rfl
theorem elt_97 : elt Tryd.prog 97 = some (3, false, 1) := by kernel_rfl
theorem ext_92 : ExtB Tryd.prog 92 add64Entry := ⟨Tryd.f92, Tryd.func92, by kernel_rfl, by kernel_rfl, by kernel_rfl, by kernel_rfl⟩
theorem ext_97 : ExtB Tryd.prog 97 sub64E := ⟨Tryd.f97, Tryd.func97, by kernel_rfl, by kernel_rfl, by kernel_rfl, by kernel_rfl⟩
theorem idx_111 : idx Tryd.prog 111 = some (some 5, 1) := by kernel_rfl
theorem idx_23 : idx Tryd.prog 23 = some (some 16, 1) := by kernel_rfl
theorem idx_93 : idx Tryd.prog 93 = some (some 2, 1) := by kernel_rfl
theorem idx_97 : idx Tryd.prog 97 = some (some 3, 1) := by kernel_rfl
theorem idx_98 : idx Tryd.prog 98 = some (some 24, 1) := by kernel_rfl
theorem shp_23 : shp Tryd.prog 23 = some (true, 16) := by kernel_rfl
theorem shp_50 : shp Tryd.prog 50 = some (false, 1) := by kernel_rfl
theorem shp_93 : shp Tryd.prog 93 = some (true, 2) := by kernel_rfl
theorem shp_97 : shp Tryd.prog 97 = some (true, 3) := by kernel_rfl
theorem zero_111 : zeroAV Tryd.prog 111 = some (I .u64 (List.replicate 5 0)) := by kernel_rfl
theorem zero_23 : zeroAV Tryd.prog 23 = some (I .u8 (List.replicate 16 0)) := by kernel_rfl
theorem zero_93 : zeroAV Tryd.prog 93 = some (I .u64 (List.replicate 2 0)) := by kernel_rfl
theorem zero_97 : zeroAV Tryd.prog 97 = some (I .u64 (List.replicate 3 0)) := by kernel_rfl
theorem zero_98 : zeroAV Tryd.prog 98 = some (I .u8 (List.replicate 24 0)) := by kernel_rfl
set_option maxRecDepth 20000 in
set_option maxHeartbeats 4000000 in
theorem mul64_c (x y : Nat) (hx : x < 18446744073709551616) (hy : y < 18446744073709551616) : FnC Tryd.prog 91 [] [.i .u64 ((x : Nat) : Int), .i .u64 ((y : Nat) : Int)] [] [] (.tu [.i .u64 ((x * y / 18446744073709551616 : Nat) : Int), .i .u64 ((x * y % 18446744073709551616 : Nat) : Int)]) := by
  have hp := mul_parts x y
  have h00 := sq32 (x := (x % 4294967296)) (y := (y % 4294967296)) (by omega) (by omega)
  have h10 := sq32 (x := (x / 4294967296)) (y := (y % 4294967296)) (by omega) (by omega)
  have h01 := sq32 (x := (x % 4294967296)) (y := (y / 4294967296)) (by omega) (by omega)
  have h11 := sq32 (x := (x / 4294967296)) (y := (y / 4294967296)) (by omega) (by omega)
  refine FnC.introR (N0 := 0) (T := 51) (E := [(0, .i .u64 ((x : Nat) : Int)), (1, .i .u64 ((y : Nat) : Int))]) Tryd.func91 rfl (by decide) mix rfl rfl rfl (by simp) rfl ⟨t_b, t_b, trivial⟩ (by simp) t_10 (fun F n0 X w ρ hC hro => ?_)
  refine wsr ?_
  refine wp rfl hC t_k ?_
  refine wp rfl hC t_k ?_
  refine WL_nil ?_
  refine wsr ?_
  refine wp rfl hC t_1 ?_
  refine wp rfl hC (oc_bin hC rfl (.tmp rfl) .cint (r := (((x % 4294967296) : Nat) : Int)) (and_lo32 hx) rfl rfl) ?_
  refine wp rfl hC t_4 ?_
  refine WL_nil ?_
  refine wsr ?_
  refine wp rfl hC t_1 ?_
  refine wp rfl hC (oc_shift hC (.inr rfl) (.tmp rfl) .cint t_j (r := (((x / 4294967296) : Nat) : Int)) shr_32 rfl rfl) ?_
  refine wp rfl hC t_4 ?_
  refine WL_nil ?_
  refine wsr ?_
  refine wp rfl hC t_1 ?_
  refine wp rfl hC (oc_bin hC rfl (.tmp rfl) .cint (r := (((y % 4294967296) : Nat) : Int)) (and_lo32 hy) rfl rfl) ?_
  refine wp rfl hC t_4 ?_
  refine WL_nil ?_
  refine wsr ?_
  refine wp rfl hC t_1 ?_
  refine wp rfl hC (oc_shift hC (.inr rfl) (.tmp rfl) .cint t_j (r := (((y / 4294967296) : Nat) : Int)) shr_32 rfl rfl) ?_
  refine wp rfl hC t_4 ?_
  refine WL_nil ?_
  refine wsr ?_
  refine wp rfl hC t_1 ?_
  refine wp rfl hC t_1 ?_
  refine wp rfl hC (oc_bin hC rfl (.tmp rfl) (.tmp rfl) (r := (((x % 4294967296) * (y % 4294967296) : Nat) : Int)) (nmul_u (by omega)) rfl rfl) ?_
  refine wp rfl hC t_4 ?_
  refine WL_nil ?_
  refine wsr ?_
  refine wp rfl hC t_1 ?_
  refine wp rfl hC t_1 ?_
  refine wp rfl hC (oc_bin hC rfl (.tmp rfl) (.tmp rfl) (r := (((x / 4294967296) * (y % 4294967296) : Nat) : Int)) (nmul_u (by omega)) rfl rfl) ?_
  refine wp rfl hC t_1 ?_
  refine wp rfl hC (oc_shift hC (.inr rfl) (.tmp rfl) .cint t_j (r := (((x % 4294967296) * (y % 4294967296) / 4294967296 : Nat) : Int)) shr_32 rfl rfl) ?_
  refine wp rfl hC (oc_bin hC rfl (.tmp rfl) (.tmp rfl) (r := ((((x / 4294967296) * (y % 4294967296) + (x % 4294967296) * (y % 4294967296) / 4294967296) : Nat) : Int)) (nadd_u (by omega)) rfl rfl) ?_
  refine wp rfl hC t_4 ?_
  refine WL_nil ?_
  refine wsr ?_
  refine wp rfl hC t_1 ?_
  refine wp rfl hC (oc_bin hC rfl (.tmp rfl) .cint (r := ((((x / 4294967296) * (y % 4294967296) + (x % 4294967296) * (y % 4294967296) / 4294967296) % 4294967296 : Nat) : Int)) (and_lo32 (by omega)) rfl rfl) ?_
  refine wp rfl hC t_4 ?_
  refine WL_nil ?_
  refine wsr ?_
  refine wp rfl hC t_1 ?_
  refine wp rfl hC (oc_shift hC (.inr rfl) (.tmp rfl) .cint t_j (r := ((((x / 4294967296) * (y % 4294967296) + (x % 4294967296) * (y % 4294967296) / 4294967296) / 4294967296 : Nat) : Int)) shr_32 rfl rfl) ?_
  refine wp rfl hC t_4 ?_
  refine WL_nil ?_
  refine wsr ?_
  refine wp rfl hC t_1 ?_
  refine wp rfl hC t_1 ?_
  refine wp rfl hC t_1 ?_
  refine wp rfl hC (oc_bin hC rfl (.tmp rfl) (.tmp rfl) (r := (((x % 4294967296) * (y / 4294967296) : Nat) : Int)) (nmul_u (by omega)) rfl rfl) ?_
  refine wp rfl hC (oc_bin hC rfl (.tmp rfl) (.tmp rfl) (r := (((((x / 4294967296) * (y % 4294967296) + (x % 4294967296) * (y % 4294967296) / 4294967296) % 4294967296 + (x % 4294967296) * (y / 4294967296)) : Nat) : Int)) (nadd_u (by omega)) rfl rfl) ?_
  refine wp rfl hC t_4 ?_
  refine WL_nil ?_
  refine wsr ?_
  refine wp rfl hC t_1 ?_
  refine wp rfl hC t_1 ?_
  refine wp rfl hC (oc_bin hC rfl (.tmp rfl) (.tmp rfl) (r := (((x / 4294967296) * (y / 4294967296) : Nat) : Int)) (nmul_u (by omega)) rfl rfl) ?_
  refine wp rfl hC t_1 ?_
  refine wp rfl hC (oc_bin hC rfl (.tmp rfl) (.tmp rfl) (r := (((x / 4294967296) * (y / 4294967296) + ((x / 4294967296) * (y % 4294967296) + (x % 4294967296) * (y % 4294967296) / 4294967296) / 4294967296 : Nat) : Int)) (nadd_u (by omega)) rfl rfl) ?_
  refine wp rfl hC t_1 ?_
  refine wp rfl hC (oc_shift hC (.inr rfl) (.tmp rfl) .cint t_j (r := (((((x / 4294967296) * (y % 4294967296) + (x % 4294967296) * (y % 4294967296) / 4294967296) % 4294967296 + (x % 4294967296) * (y / 4294967296)) / 4294967296 : Nat) : Int)) shr_32 rfl rfl) ?_
  refine wp rfl hC (oc_bin hC rfl (.tmp rfl) (.tmp rfl) (r := ((x * y / 18446744073709551616 : Nat) : Int)) ((nadd_u (by omega)).trans (congrArg Nat.cast (by omega))) rfl rfl) ?_
  refine wp rfl hC t_4 ?_
  refine WL_nil ?_
  refine wsr ?_
  refine wp rfl hC t_1 ?_
  refine wp rfl hC t_1 ?_
  refine wp rfl hC (oc_bin hC rfl (.tmp rfl) (.tmp rfl) (r := ((x * y % 18446744073709551616 : Nat) : Int)) nmulw_u rfl rfl) ?_
  refine wp rfl hC t_4 ?_
  refine WL_nil ?_
  refine W_ret ?_
  exact fin0 (.cons (.tmp rfl) (.cons (.tmp rfl) .nil)) rfl (by simp)
set_option maxRecDepth 20000 in
set_option maxHeartbeats 4000000 in
theorem long_c (l : List Int) (hl : l.length = 8) (hb : B8 l) : FnC Tryd.prog 72 [] [.vs 8 (I .u8 l)] [] [] (.i .u64 ((lb l : Nat) : Int)) := by
  refine FnC.introR (N0 := 0) (T := 18) (E := [(0, .vs 8 (I .u8 l))]) Tryd.func72 rfl (by decide) mix rfl rfl rfl (by simp) rfl ⟨t_b, trivial⟩ (by simp) t_10 (fun F n0 X w ρ hC hro => ?_)
  refine wsr ?_
  refine wp rfl hC t_k ?_
  refine WL_nil ?_
  refine wsr ?_
  refine wp rfl hC t_k ?_
  refine WL_nil ?_
  refine W_seq ?_
  refine wsr ?_
  refine wp rfl hC t_k ?_
  refine WL_nil ?_
  refine W_blk ?_
  refine W_loopW (fun (ζ : Nat) => ⟨0, [(0, .vs 8 (I .u8 l)), (3, .i .u64 ((lb (l.drop ζ) : Nat) : Int)), (4, .i .i64 ((ζ : Int) - 1))], []⟩) (fun ζ => ζ ≤ 8) (fun ζ => ζ) (8) (Nat.le_refl _) (weak (fun k => k) (.cons rfl t_30 t_0 (.cons rfl (congrArg (AV.i _) (by rw [List.drop_of_length_le (show l.length ≤ 8 by omega), lb_nil]; rfl)) trivial (.cons rfl (congrArg (AV.i _) (by decide)) trivial .nil))) .nil rfl rfl rfl) ?_
  intro i hR
  replace hR : i ≤ 8 := hR
  first | show W _ _ _ ⟨0, [(0, .vs 8 (I .u8 l)), (3, .i .u64 ((lb (l.drop i) : Nat) : Int)), (4, .i .i64 ((i : Int) - 1))], []⟩ | skip
  refine W_seq ?_
  refine wsr ?_
  refine wp rfl hC t_1 ?_
  refine wp rfl hC t_11 ?_
  refine WL_nil ?_
  refine W_cond rfl (by decide) (fun hc => ?_) (fun hc => ?_)
  ·
    replace hc := geq_t hc
    obtain ⟨j, rfl⟩ : ∃ j, i = j + 1 := ⟨i - 1, by omega⟩
    have hxj := hb.get j
    have h1 := lb_lt (l := l.drop (j + 1)) (fun x hx => hb x (List.mem_of_mem_drop hx))
    have h2 : 256 ^ (l.drop (j + 1)).length ≤ 256 ^ 7 := Nat.pow_le_pow_right (by decide) t_1y
    have h3 : (256 : Nat) ^ 7 = 72057594037927936 := by decide
    refine W_skip ?_
    refine W_seq ?_
    refine W_blk ?_
    refine W_region ?_
    refine wp rfl hC t_1 ?_
    refine wp rfl hC (oc_shift hC (.inl rfl) (.tmp rfl) .cint t_j (r := ((lb (l.drop (j + 1))) : Int) * 256) (by rw [show (8 : Int) = ((8 : Nat) : Int) from rfl, shl_n (n := 8) rfl (by decide), show (2 : Int) ^ 8 = 256 by decide]; exact u64_conv (by omega)) rfl rfl) ?_
    refine wp rfl hC t_1 ?_
    refine wp rfl hC t_1 ?_
    refine wp rfl hC (ox_indexS hC (j := j) (.tmp rfl) (.tmp rfl) idx_22 (by omega) t_d t_33 t_2 rfl rfl) ?_
    refine wp rfl hC t_6l ?_
    refine wp rfl hC (oc_conv hC (.tmp rfl) rfl Tryd.underlying50 (by first | exact u64_conv (by omega) | rfl) rfl rfl) ?_
    refine wp rfl hC (oc_bin hC rfl (.tmp rfl) (.tmp rfl) (r := ((lb (l.drop j) : Nat) : Int)) (by rw [or_addU (by omega) (by omega) hxj, lb_drop' l j]; omega) rfl rfl) ?_
    refine wp rfl hC t_4 ?_
    refine WL_nil ?_
    refine W_region ?_
    refine wp rfl hC t_1 ?_
    refine wp rfl hC t_40 ?_
    refine wp rfl hC t_4 ?_
    refine WL_nil ?_
    exact ⟨(j), (by omega), (weak (fun k => k) (.cons rfl t_30 t_0 (.cons rfl rfl trivial (.cons rfl (congrArg (AV.i _) (by omega)) trivial .nil))) .nil rfl rfl rfl), (by omega)⟩
  ·
    replace hc := geq_f hc
    obtain rfl : i = 0 := by omega
    rw [List.drop_zero]
    refine W_exit ?_
    refine wsr ?_
    refine wp rfl hC t_1 ?_
    refine wp rfl hC t_4 ?_
    refine WL_nil ?_
    refine W_ret ?_
    exact fin0 (.cons (.tmp rfl) .nil) rfl trivial
set_option maxRecDepth 20000 in
set_option maxHeartbeats 4000000 in
theorem pput_c (t : TypeId) (ws : List Int) (off len n : Nat) (h8 : 8 ≤ len) (ho : off + len ≤ ws.length) (hn : n < 18446744073709551616) : FnC Tryd.prog 73 [] [.sl 0 off len, .i .u64 ((n : Nat) : Int)] [(0, .blk t (I .u8 ws))] [(0, .blk t (I .u8 (spl ws off (fixL n 8))))] (.tu []) := by
  refine FnC.introR (N0 := 1) (T := 17) (E := [(0, .sl 0 off len), (1, .i .u64 ((n : Nat) : Int))]) Tryd.func73 rfl (by decide) mix rfl rfl rfl (by simp) rfl ⟨t_b, t_b, trivial⟩ t_2x (by
        intro S ha hr hw
        have s0 : S 0 := (hr 0 _ List.mem_cons_self).1
        refine ⟨by first | exact inSL_I _ | simp [s0], fun k b hm => ?_⟩
        simp only [List.mem_cons, Prod.mk.injEq, List.not_mem_nil, or_false] at hm
        rcases hm with ⟨rfl, rfl⟩
        · exact ⟨s0, by first | exact inSL_I _ | simp [s0]⟩) (fun F n0 X w ρ hC hro => ?_)
  refine wsr ?_
  refine wp rfl hC t_1l ?_
  refine WL_nil ?_
  refine W_blk ?_
  refine W_loopW (fun (ζ : Nat) => ⟨1, [(0, .sl 0 off len), (1, .i .u64 ((n : Nat) : Int)), (5, .i .i64 ζ)], [(0, .blk t (I .u8 (spl ws off (fixL n ζ))))]⟩) (fun ζ => ζ ≤ 8) (fun ζ => 8 - ζ) (0) (Nat.zero_le _) (weak (fun k => k) (.cons rfl t_5 t_6 (.cons rfl rfl trivial (.cons rfl rfl trivial .nil))) (.cons rfl (renBlk (by rw [fixL_nil, spl_nil])) rfl t_0 .nil) rfl rfl rfl) ?_
  intro i hR
  replace hR : i ≤ 8 := hR
  first | show W _ _ _ ⟨1, [(0, .sl 0 off len), (1, .i .u64 ((n : Nat) : Int)), (5, .i .i64 i)], [(0, .blk t (I .u8 (spl ws off (fixL n i))))]⟩ | skip
  have hfl := length_fixL n i
  have hsl := length_spl (ws := ws) (l := fixL n i) (off := off) (by rw [hfl]; omega)
  refine wsr ?_
  refine wp rfl hC t_11 ?_
  refine WL_nil ?_
  refine W_seq ?_
  refine W_cond rfl (by decide) (fun hc => ?_) (fun hc => ?_)
  ·
    replace hc := lss_t hc
    
    refine W_skip ?_
    refine W_seq ?_
    refine W_blk ?_
    refine wsr ?_
    refine wp rfl hC t_1 ?_
    refine wp rfl hC t_4 ?_
    refine WL_nil ?_
    refine W_region ?_
    refine wp rfl hC t_1 ?_
    refine wp rfl hC t_1 ?_
    refine wp rfl hC t_1 ?_
    refine wp rfl hC t_1 ?_
    refine wp rfl hC (oc_bin hC rfl .cint (.tmp rfl) (r := ((8 * i : Nat) : Int)) (nmul (x := 8) (by omega)) rfl rfl) ?_
    refine wp rfl hC (oc_shift hC (.inr rfl) (.tmp rfl) (.tmp rfl) (by omega) (r := ((n / 256 ^ i : Nat) : Int)) (shr8i (by omega)) rfl rfl) ?_
    refine wp rfl hC (oc_conv hC (.tmp rfl) rfl Tryd.underlying5 (r := ((n / 256 ^ i % 256 : Nat) : Int)) fix_byte rfl rfl) ?_
    refine wp rfl hC t_7g ?_
    refine wp rfl hC (ox_store (bk' := .blk t (I .u8 ((spl ws off (fixL n i)).set (off + i) ((n / 256 ^ i % 256 : Nat) : Int)))) hC (.tmp rfl) (.tmp rfl) rfl shp_5 t_h t_18 t_s (put_blkI (by omega)) t_f rfl) ?_
    refine WL_nil ?_
    refine W_region ?_
    refine wp rfl hC t_36 ?_
    refine wp rfl hC t_1 ?_
    refine WL_nil ?_
    exact ⟨(i + 1), (by omega), (weak (fun k => k) (.cons rfl t_5 t_6 (.cons rfl rfl trivial (.cons rfl t_2y trivial .nil))) (.cons rfl (renBlk (by have h := spl_succ (ws := ws) (l := fixL n i) (off := off) (v := ((n / 256 ^ i % 256 : Nat) : Int)) (by rw [hfl]; omega); rw [hfl] at h; rw [h, fixL_succ])) rfl t_0 .nil) rfl rfl rfl), (by omega)⟩
  ·
    replace hc := lss_f hc
    obtain rfl : i = 8 := by omega
    refine W_exit ?_
    exact finK (fun k => k) .nil rfl (wr_cons rfl ren_blkI wr_nil) rfl rfl
set_option maxRecDepth 20000 in
set_option maxHeartbeats 4000000 in
theorem halves_c (b : List Int) (hl : b.length = 16) (hb : B8 b) : FnC Tryd.prog 68 [] [.ag (I .u8 b)] [] [] (.ag (I .u64 (w2 (lb b)))) := by
  refine FnC.introR (N0 := 0) (T := 8) (E := [(0, .ag (I .u8 b))]) Tryd.func68 rfl (by decide) mix rfl rfl rfl (by simp) rfl ⟨t_b, trivial⟩ (by simp) t_10 (fun F n0 X w ρ hC hro => ?_)
  refine wsr ?_
  refine wp rfl hC t_3j ?_
  refine wp rfl hC (ox_alloc hC zero_93 rfl rfl rfl) ?_
  refine WL_nil ?_
  refine W_seq ?_
  refine W_drawD hC ?_
  refine WD_cons (.plain rfl (ox_cutA hC (.tmp rfl) .no (.yes (n := 8) .cint rfl) idx_23 t_2 t_2 t_3n t_1b rfl rfl)) ?_
  refine WD_cons (.plain rfl (oc_call hC (.cons (.tmp rfl) .nil) (.cons1 t_31 (.same t_0)) (long_c ((b.drop 0).take 8) t_7 (fun x hx => hb x (List.mem_of_mem_drop (List.mem_of_mem_take hx)))) glob_nil t_0 t_8 rfl rfl)) ?_
  rw [half0 hb]
  refine WD_cons (.plain rfl (ox_cutA hC (.tmp rfl) (.yes (n := 8) .cint rfl) .no idx_23 t_2 t_2 t_3n t_1b rfl rfl)) ?_
  refine WD_cons (.plain rfl (oc_call hC (.cons (.tmp rfl) .nil) (.cons1 t_31 (.same t_0)) (long_c ((b.drop 8).take 8) t_7 (fun x hx => hb x (List.mem_of_mem_drop (List.mem_of_mem_take hx)))) glob_nil t_0 t_8 rfl rfl)) ?_
  rw [half1 hb hl]
  refine WD_cons (.plain rfl (ox_arr hC (.cons (.tmp rfl) (.cons (.tmp rfl) .nil)) Tryd.underlying93 cells_50 zero_93 t_5 bld_93 rfl rfl t_5 rfl rfl)) ?_
  refine WD_cons (.plain rfl (ox_store (bk' := .blk 93 (I .u64 (w2 (lb b)))) hC (.tmp rfl) (.tmp rfl) rfl shp_93 t_h rfl t_s rfl t_f rfl)) ?_
  refine WD_nil t_x ?_
  refine W_ret ?_
  exact fin0 (.cons (.cell rfl (.p rfl) shp_93 (unit_all rfl)) .nil) rfl (inSL_I _)
set_option maxRecDepth 20000 in
set_option maxHeartbeats 4000000 in
theorem padd_c (A B : Nat) (hAB : A + B < 6277101735386680763835789423207666416102355444464034512896) : FnC Tryd.prog 71 [] [.ag (I .u64 (w3 (A))), .ag (I .u64 (w3 (B)))] [] [] (.ag (I .u64 (w3 (A + B)))) := by
  refine FnC.introR (N0 := 0) (T := 36) (E := [(0, .ag (I .u64 (w3 (A)))), (1, .ag (I .u64 (w3 (B))))]) Tryd.func71 rfl (by decide) mix rfl rfl rfl (by simp) rfl ⟨t_b, t_b, trivial⟩ (by simp) t_10 (fun F n0 X w ρ hC hro => ?_)
  refine wsr ?_
  refine wp rfl hC t_3j ?_
  refine wp rfl hC t_3j ?_
  refine wp rfl hC t_23 ?_
  refine WL_nil ?_
  refine wsr ?_
  refine wp rfl hC t_k ?_
  refine WL_nil ?_
  refine wsr ?_
  refine wp rfl hC t_74 ?_
  refine wp rfl hC t_7u ?_
  refine wp rfl hC t_74 ?_
  refine wp rfl hC (oc_load hC (v := .i .u64 ((B % 18446744073709551616 : Nat) : Int)) (.tmp rfl) t_3 shp_50 t_3r rfl rfl) ?_
  refine wp rfl hC (oc_add64 (x := A % 18446744073709551616) (y := B % 18446744073709551616) (c := 0) (s := (A + B) % 18446744073709551616) (t := (A % 18446744073709551616 + B % 18446744073709551616) / 18446744073709551616) hC ext_92 (.tmp rfl) (.tmp rfl) .cint t_j (by omega) (by omega) rfl rfl) ?_
  refine wp rfl hC t_1 ?_
  refine wp rfl hC t_l ?_
  refine wp rfl hC t_l ?_
  refine wp rfl hC t_74 ?_
  refine wp rfl hC (ox_store (bk' := .blk 97 (I .u64 [(((A + B) % 18446744073709551616 : Nat) : Int), ((A / 18446744073709551616 % 18446744073709551616 : Nat) : Int), ((A / 18446744073709551616 / 18446744073709551616 : Nat) : Int)])) hC (.tmp rfl) (.tmp rfl) rfl shp_50 t_h rfl t_s rfl t_f rfl) ?_
  refine wp rfl hC t_4 ?_
  refine WL_nil ?_
  refine wsr ?_
  refine wp rfl hC t_75 ?_
  refine wp rfl hC t_7v ?_
  refine wp rfl hC t_75 ?_
  refine wp rfl hC (oc_load hC (v := .i .u64 ((B / 18446744073709551616 % 18446744073709551616 : Nat) : Int)) (.tmp rfl) t_3 shp_50 t_3r rfl rfl) ?_
  refine wp rfl hC t_1 ?_
  refine wp rfl hC (oc_add64 (x := A / 18446744073709551616 % 18446744073709551616) (y := B / 18446744073709551616 % 18446744073709551616) (c := (A % 18446744073709551616 + B % 18446744073709551616) / 18446744073709551616) (s := (A + B) / 18446744073709551616 % 18446744073709551616) (t := (A / 18446744073709551616 % 18446744073709551616 + B / 18446744073709551616 % 18446744073709551616 + (A % 18446744073709551616 + B % 18446744073709551616) / 18446744073709551616) / 18446744073709551616) hC ext_92 (.tmp rfl) (.tmp rfl) (.tmp rfl) t_j (by omega) (by omega) rfl rfl) ?_
  refine wp rfl hC t_1 ?_
  refine wp rfl hC t_l ?_
  refine wp rfl hC t_l ?_
  refine wp rfl hC t_75 ?_
  refine wp rfl hC (ox_store (bk' := .blk 97 (I .u64 [(((A + B) % 18446744073709551616 : Nat) : Int), (((A + B) / 18446744073709551616 % 18446744073709551616 : Nat) : Int), ((A / 18446744073709551616 / 18446744073709551616 : Nat) : Int)])) hC (.tmp rfl) (.tmp rfl) rfl shp_50 t_h rfl t_s rfl t_f rfl) ?_
  refine wp rfl hC t_4 ?_
  refine WL_nil ?_
  refine wsr ?_
  refine wp rfl hC t_71 ?_
  refine wp rfl hC t_7h ?_
  refine wp rfl hC t_71 ?_
  refine wp rfl hC (oc_load hC (v := .i .u64 ((B / 18446744073709551616 / 18446744073709551616 : Nat) : Int)) (.tmp rfl) t_3 shp_50 t_3r rfl rfl) ?_
  refine wp rfl hC t_1 ?_
  refine wp rfl hC (oc_add64 (x := A / 18446744073709551616 / 18446744073709551616) (y := B / 18446744073709551616 / 18446744073709551616) (c := (A / 18446744073709551616 % 18446744073709551616 + B / 18446744073709551616 % 18446744073709551616 + (A % 18446744073709551616 + B % 18446744073709551616) / 18446744073709551616) / 18446744073709551616) (s := (A + B) / 18446744073709551616 / 18446744073709551616) (t := (A / 18446744073709551616 / 18446744073709551616 + B / 18446744073709551616 / 18446744073709551616 + (A / 18446744073709551616 % 18446744073709551616 + B / 18446744073709551616 % 18446744073709551616 + (A % 18446744073709551616 + B % 18446744073709551616) / 18446744073709551616) / 18446744073709551616) / 18446744073709551616) hC ext_92 (.tmp rfl) (.tmp rfl) (.tmp rfl) t_j (by omega) (by omega) rfl rfl) ?_
  refine wp rfl hC t_1 ?_
  refine wp rfl hC t_l ?_
  refine wp rfl hC t_l ?_
  refine wp rfl hC t_71 ?_
  refine wp rfl hC (ox_store (bk' := .blk 97 (I .u64 [(((A + B) % 18446744073709551616 : Nat) : Int), (((A + B) / 18446744073709551616 % 18446744073709551616 : Nat) : Int), (((A + B) / 18446744073709551616 / 18446744073709551616 : Nat) : Int)])) hC (.tmp rfl) (.tmp rfl) rfl shp_50 t_h rfl t_s rfl t_f rfl) ?_
  refine WL_nil ?_
  refine wsr ?_
  refine wp rfl hC (oc_load hC (v := .ag (I .u64 (w3 (A + B)))) (.tmp rfl) t_3 shp_97 t_1w rfl rfl) ?_
  refine wp rfl hC (ox_store (bk' := .blk 97 (I .u64 (w3 (A + B)))) hC (.tmp rfl) (.tmp rfl) rfl shp_97 t_h rfl t_s rfl t_f rfl) ?_
  refine WL_nil ?_
  refine W_ret ?_
  exact fin0 (.cons (.cell rfl (.p rfl) shp_97 (unit_all rfl)) .nil) rfl (inSL_I _)
set_option maxRecDepth 20000 in
set_option maxHeartbeats 4000000 in
theorem pless_lt (A : Nat) (hA : A < 1361129467683753853853498429727072845819) : FnC Tryd.prog 93 [] [.ag (I .u64 (w3 (A)))] [] [] (.ag (I .u64 (w3 (A)))) := by
  have hex : ∀ (a b : Nat), ∃ t : Nat, (if a < b then 1 else 0) = t ∧ ((t = 1 ∧ a < b) ∨ (t = 0 ∧ b ≤ a)) := fun a b => ⟨_, rfl, by split <;> omega⟩
  obtain ⟨c1, h1, h1'⟩ := hex (A % 18446744073709551616) (18446744073709551611 + 0)
  obtain ⟨c2, h2, h2'⟩ := hex (A / 18446744073709551616 % 18446744073709551616) (18446744073709551615 + c1)
  obtain ⟨c3, h3, h3'⟩ := hex (A / 18446744073709551616 / 18446744073709551616) (3 + c2)
  refine FnC.introR (N0 := 0) (T := 34) (E := [(0, .ag (I .u64 (w3 (A))))]) Tryd.func93 rfl (by decide) mix rfl rfl rfl (by simp) rfl ⟨t_b, trivial⟩ (by simp) t_10 (fun F n0 X w ρ hC hro => ?_)
  refine wsr ?_
  refine wp rfl hC t_3j ?_
  refine wp rfl hC t_23 ?_
  refine WL_nil ?_
  refine wsr ?_
  refine wp rfl hC t_74 ?_
  refine wp rfl hC t_7u ?_
  refine wp rfl hC (oc_sub64 (x := A % 18446744073709551616) (y := 18446744073709551611) (c := 0) (t := c1) hC ext_97 (.tmp rfl) .cint .cint t_j rfl h1 rfl rfl) ?_
  refine wp rfl hC t_1 ?_
  refine wp rfl hC t_l ?_
  refine wp rfl hC t_l ?_
  refine wp rfl hC t_4 ?_
  refine wp rfl hC t_4 ?_
  refine WL_nil ?_
  refine wsr ?_
  refine wp rfl hC t_75 ?_
  refine wp rfl hC t_7v ?_
  refine wp rfl hC t_1 ?_
  refine wp rfl hC (oc_sub64 (x := A / 18446744073709551616 % 18446744073709551616) (y := 18446744073709551615) (c := c1) (t := c2) hC ext_97 (.tmp rfl) .cint (.tmp rfl) t_j rfl h2 rfl rfl) ?_
  refine wp rfl hC t_1 ?_
  refine wp rfl hC t_l ?_
  refine wp rfl hC t_l ?_
  refine wp rfl hC t_4 ?_
  refine wp rfl hC t_4 ?_
  refine WL_nil ?_
  refine wsr ?_
  refine wp rfl hC t_71 ?_
  refine wp rfl hC t_7h ?_
  refine wp rfl hC t_1 ?_
  refine wp rfl hC (oc_sub64 (x := A / 18446744073709551616 / 18446744073709551616) (y := 3) (c := c2) (t := c3) hC ext_97 (.tmp rfl) .cint (.tmp rfl) t_j rfl h3 rfl rfl) ?_
  refine wp rfl hC t_1 ?_
  refine wp rfl hC t_l ?_
  refine wp rfl hC t_l ?_
  refine wp rfl hC t_4 ?_
  refine wp rfl hC t_4 ?_
  refine WL_nil ?_
  refine W_seq ?_
  refine wsr ?_
  refine wp rfl hC t_1 ?_
  refine wp rfl hC t_3b ?_
  refine WL_nil ?_
  refine W_cond rfl (by decide) (fun _ => ?_) (fun hc => by cases hc)
  refine wsr ?_
  refine wp rfl hC (oc_load hC (v := .ag (I .u64 (w3 (A)))) (.tmp rfl) t_3 shp_97 t_1w rfl rfl) ?_
  refine wp rfl hC (ox_store (bk' := .blk 97 (I .u64 (w3 A))) hC (.tmp rfl) (.tmp rfl) rfl shp_97 t_h rfl t_s rfl t_f rfl) ?_
  refine WL_nil ?_
  refine W_ret ?_
  exact fin0 (.cons (.cell rfl (.p rfl) shp_97 (unit_all rfl)) .nil) rfl (inSL_I _)
set_option maxRecDepth 20000 in
set_option maxHeartbeats 4000000 in
theorem pless_ge (A : Nat) (hA : 1361129467683753853853498429727072845819 ≤ A) (h3 : A < 6277101735386680763835789423207666416102355444464034512896) : FnC Tryd.prog 93 [] [.ag (I .u64 (w3 (A)))] [] [] (.ag (I .u64 (w3 (A - 1361129467683753853853498429727072845819)))) := by
  have hex : ∀ (a b : Nat), ∃ t : Nat, (if a < b then 1 else 0) = t ∧ ((t = 1 ∧ a < b) ∨ (t = 0 ∧ b ≤ a)) := fun a b => ⟨_, rfl, by split <;> omega⟩
  obtain ⟨c1, h1, h1'⟩ := hex (A % 18446744073709551616) (18446744073709551611 + 0)
  obtain ⟨c2, h2, h2'⟩ := hex (A / 18446744073709551616 % 18446744073709551616) (18446744073709551615 + c1)
  obtain ⟨c3, h3e, h3'⟩ := hex (A / 18446744073709551616 / 18446744073709551616) (3 + c2)
  refine FnC.introR (N0 := 0) (T := 34) (E := [(0, .ag (I .u64 (w3 (A))))]) Tryd.func93 rfl (by decide) mix rfl rfl rfl (by simp) rfl ⟨t_b, trivial⟩ (by simp) t_10 (fun F n0 X w ρ hC hro => ?_)
  refine wsr ?_
  refine wp rfl hC t_3j ?_
  refine wp rfl hC t_23 ?_
  refine WL_nil ?_
  refine wsr ?_
  refine wp rfl hC t_74 ?_
  refine wp rfl hC t_7u ?_
  refine wp rfl hC (oc_sub64 (x := A % 18446744073709551616) (y := 18446744073709551611) (c := 0) (s := (A - 1361129467683753853853498429727072845819) % 18446744073709551616) (t := c1) hC ext_97 (.tmp rfl) .cint .cint t_j (by omega) h1 rfl rfl) ?_
  refine wp rfl hC t_1 ?_
  refine wp rfl hC t_l ?_
  refine wp rfl hC t_l ?_
  refine wp rfl hC t_4 ?_
  refine wp rfl hC t_4 ?_
  refine WL_nil ?_
  refine wsr ?_
  refine wp rfl hC t_75 ?_
  refine wp rfl hC t_7v ?_
  refine wp rfl hC t_1 ?_
  refine wp rfl hC (oc_sub64 (x := A / 18446744073709551616 % 18446744073709551616) (y := 18446744073709551615) (c := c1) (s := (A - 1361129467683753853853498429727072845819) / 18446744073709551616 % 18446744073709551616) (t := c2) hC ext_97 (.tmp rfl) .cint (.tmp rfl) t_j (by omega) h2 rfl rfl) ?_
  refine wp rfl hC t_1 ?_
  refine wp rfl hC t_l ?_
  refine wp rfl hC t_l ?_
  refine wp rfl hC t_4 ?_
  refine wp rfl hC t_4 ?_
  refine WL_nil ?_
  refine wsr ?_
  refine wp rfl hC t_71 ?_
  refine wp rfl hC t_7h ?_
  refine wp rfl hC t_1 ?_
  refine wp rfl hC (oc_sub64 (x := A / 18446744073709551616 / 18446744073709551616) (y := 3) (c := c2) (s := (A - 1361129467683753853853498429727072845819) / 18446744073709551616 / 18446744073709551616) (t := c3) hC ext_97 (.tmp rfl) .cint (.tmp rfl) t_j (by omega) h3e rfl rfl) ?_
  refine wp rfl hC t_1 ?_
  refine wp rfl hC t_l ?_
  refine wp rfl hC t_l ?_
  refine wp rfl hC t_4 ?_
  refine wp rfl hC t_4 ?_
  refine WL_nil ?_
  refine W_seq ?_
  refine wsr ?_
  refine wp rfl hC t_1 ?_
  refine wp rfl hC t_37 ?_
  refine WL_nil ?_
  refine W_cond rfl (by decide) (fun hc => by cases hc) (fun _ => ?_)
  refine W_skip ?_
  refine wsr ?_
  refine wp rfl hC t_1 ?_
  refine wp rfl hC t_1 ?_
  refine wp rfl hC t_1 ?_
  refine wp rfl hC t_55 ?_
  refine wp rfl hC (ox_store (bk' := .blk 97 (I .u64 (w3 (A - 1361129467683753853853498429727072845819)))) hC (.tmp rfl) (.tmp rfl) rfl shp_97 t_h rfl t_s rfl t_f rfl) ?_
  refine WL_nil ?_
  refine W_ret ?_
  exact fin0 (.cons (.cell rfl (.p rfl) shp_97 (unit_all rfl)) .nil) rfl (inSL_I _)
theorem pless_c (A : Nat) (hA : A < 2722258935367507707706996859454145691638) : FnC Tryd.prog 93 [] [.ag (I .u64 (w3 (A)))] [] [] (.ag (I .u64 (w3 (A % 1361129467683753853853498429727072845819)))) := by
  rcases Nat.lt_or_ge A 1361129467683753853853498429727072845819 with h | h
  · rw [show A % 1361129467683753853853498429727072845819 = A from Nat.mod_eq_of_lt h]; exact pless_lt A h
  · rw [show A % 1361129467683753853853498429727072845819 = A - 1361129467683753853853498429727072845819 by omega]; exact pless_ge A h (by omega)
set_option maxRecDepth 20000 in
set_option maxHeartbeats 4000000 in
theorem pfold_c (A : Nat) (hA : A < 1393796574908163946345982392040522594123776) : FnC Tryd.prog 94 [] [.ag (I .u64 (w3 (A)))] [] [] (.ag (I .u64 (w3 (A % 1361129467683753853853498429727072845824 + 5 * (A / 1361129467683753853853498429727072845824))))) := by
  refine FnC.introR (N0 := 0) (T := 16) (E := [(0, .ag (I .u64 (w3 (A))))]) Tryd.func94 rfl (by decide) mix rfl rfl rfl (by simp) rfl ⟨t_b, trivial⟩ (by simp) t_10 (fun F n0 X w ρ hC hro => ?_)
  refine wsr ?_
  refine wp rfl hC t_3j ?_
  refine wp rfl hC t_23 ?_
  refine WL_nil ?_
  refine wsr ?_
  refine wp rfl hC t_71 ?_
  refine wp rfl hC t_7h ?_
  refine wp rfl hC (oc_shift hC (.inr rfl) (.tmp rfl) .cint t_j (r := ((A / 18446744073709551616 / 18446744073709551616 / 4 : Nat) : Int)) shr_2 rfl rfl) ?_
  refine wp rfl hC t_4 ?_
  refine WL_nil ?_
  refine wsr ?_
  refine wp rfl hC t_71 ?_
  refine wp rfl hC t_7h ?_
  refine wp rfl hC (oc_bin hC rfl (.tmp rfl) .cint (r := ((A / 18446744073709551616 / 18446744073709551616 % 4 : Nat) : Int)) (and_3 (by omega)) rfl rfl) ?_
  refine wp rfl hC t_71 ?_
  refine wp rfl hC (ox_store (bk' := .blk 97 (I .u64 [((A % 18446744073709551616 : Nat) : Int), ((A / 18446744073709551616 % 18446744073709551616 : Nat) : Int), ((A / 18446744073709551616 / 18446744073709551616 % 4 : Nat) : Int)])) hC (.tmp rfl) (.tmp rfl) rfl shp_50 t_h rfl t_s rfl t_f rfl) ?_
  refine WL_nil ?_
  refine wsr ?_
  refine wp rfl hC (oc_load hC (v := .ag (I .u64 (w3 (A % 1361129467683753853853498429727072845824)))) (.tmp rfl) t_3 shp_97 (by exact (unit_eq (w3_130 A).symm)) rfl rfl) ?_
  refine wp rfl hC t_1 ?_
  refine wp rfl hC (oc_bin hC rfl .cint (.tmp rfl) (r := ((5 * (A / 1361129467683753853853498429727072845824) : Nat) : Int)) ((nmul_u (x := 5) (by omega)).trans (congrArg Nat.cast (by omega))) rfl rfl) ?_
  refine wp rfl hC (ox_build (out' := I .u64 (w3 (5 * (A / 1361129467683753853853498429727072845824)))) hC (.cons (.tmp rfl) .nil) zero_97 bld_97 rfl (congrArg (I .u64) (w3_small (by omega)).symm) rfl rfl) ?_
  refine wp rfl hC (oc_call hC (.cons (.tmp rfl) (.cons (.tmp rfl) .nil)) (.cons1 (.free t_0) (.cons1 (.free t_0) (.same t_0))) (padd_c (A % 1361129467683753853853498429727072845824) (5 * (A / 1361129467683753853853498429727072845824)) (by omega)) glob_nil t_0 t_8 rfl rfl) ?_
  refine wp rfl hC (ox_store (bk' := .blk 97 (I .u64 (w3 (A % 1361129467683753853853498429727072845824 + 5 * (A / 1361129467683753853853498429727072845824))))) hC (.tmp rfl) (.tmp rfl) rfl shp_97 t_h rfl t_s rfl t_f rfl) ?_
  refine WL_nil ?_
  refine W_ret ?_
  exact fin0 (.cons (.cell rfl (.p rfl) shp_97 (unit_all rfl)) .nil) rfl (inSL_I _)
set_option maxRecDepth 20000 in
set_option maxHeartbeats 4000000 in
theorem times_c (A R : Nat) (hA : A < 2722258935367507707706996859454145691648) (hR2 : R < 340282366920938463463374607431768211456) : FnC Tryd.prog 70 [] [.ag (I .u64 (w3 (A))), .ag (I .u64 (w2 R))] [] [] (.ag (I .u64 (w3 (A * R % 1361129467683753853853498429727072845819)))) := by
  have hle := Tik_le A R
  have hb : A * R < 926336713898529563388567880069503262826159877325124512315660672063305037119488 := Nat.mul_lt_mul_of_lt_of_lt hA hR2
  have hA3 : A < 6277101735386680763835789423207666416102355444464034512896 := by omega
  have hw3l : (w3 A).length = 3 := rfl
  have hw2l : (w2 R).length = 2 := rfl
  refine FnC.introR (N0 := 0) (T := 136) (E := [(0, .ag (I .u64 (w3 (A)))), (1, .ag (I .u64 (w2 R)))]) Tryd.func70 rfl (by decide) mix rfl rfl rfl (by simp) rfl ⟨t_b, t_b, trivial⟩ (by simp) t_10 (fun F n0 X w ρ hC hro => ?_)
  refine wsr ?_
  refine wp rfl hC t_3j ?_
  refine wp rfl hC t_3j ?_
  refine wp rfl hC t_23 ?_
  refine WL_nil ?_
  refine wsr ?_
  refine wp rfl hC (ox_alloc hC zero_111 rfl rfl rfl) ?_
  refine WL_nil ?_
  refine W_seq ?_
  refine wsr ?_
  refine wp rfl hC (oc_load hC (v := .ag (I .u64 (w3 (A)))) (.tmp rfl) t_3 shp_97 t_1w rfl rfl) ?_
  refine wp rfl hC t_1l ?_
  refine WL_nil ?_
  refine W_blk ?_
  refine W_loopW (fun (ζ : Nat × List Nat) => ⟨4, [(3, .p 1 0), (4, .p 2 0), (5, .p 3 0), (17, .ag (I .u64 (w3 (A)))), (18, .i .i64 ζ.1)], [(1, .blk 93 (I .u64 (w2 R))), (2, .blk 97 (I .u64 (List.replicate 3 0))), (3, .blk 111 (I .u64 (NI ζ.2)))]⟩) (fun ζ => ζ.1 ≤ 3 ∧ Dig ζ.2 ∧ dv ζ.2 = Tik A R ζ.1 0) (fun ζ => 3 - ζ.1) (0, (List.replicate 5 0)) ⟨Nat.zero_le _, Dig.zero, by rw [Tik_zero]; exact dv_zero⟩ (weak (fun k => k) (.cons rfl t_5 t_6 (.cons rfl t_5 t_6 (.cons rfl t_5 t_6 (.cons rfl (ren_free _ _ (inSL_I _)) t_0 (.cons rfl rfl trivial .nil))))) (.cons rfl ren_blkI rfl t_0 (.cons rfl ren_blkI rfl t_0 (.cons rfl (renBlk NI_zeros.symm) rfl t_0 .nil))) rfl rfl rfl) ?_
  rintro ⟨i, ds⟩ hR
  replace hR : i ≤ 3 ∧ Dig ds ∧ dv ds = Tik A R i 0 := hR
  first | show W _ _ _ ⟨4, [(3, .p 1 0), (4, .p 2 0), (5, .p 3 0), (17, .ag (I .u64 (w3 (A)))), (18, .i .i64 i)], [(1, .blk 93 (I .u64 (w2 R))), (2, .blk 97 (I .u64 (List.replicate 3 0))), (3, .blk 111 (I .u64 (NI ds)))]⟩ | skip
  refine wsr ?_
  refine wp rfl hC t_11 ?_
  refine WL_nil ?_
  refine W_seq ?_
  refine W_cond rfl (by decide) (fun hc => ?_) (fun hc => ?_)
  ·
    replace hc := lss_t hc
    have hi : i < 3 := by omega
    refine W_skip ?_
    refine W_seq ?_
    refine W_blk ?_
    refine wsr ?_
    refine wp rfl hC t_1 ?_
    refine wp rfl hC (ox_index hC  (.tmp rfl) (.tmp rfl) elt_97 t_u t_2 t_d t_2 (by exact (unit_at (by show i < 3; omega) (w3_get hi hA3))) rfl rfl) ?_
    refine wp rfl hC t_4 ?_
    refine wp rfl hC t_4 ?_
    refine WL_nil ?_
    refine wsr ?_
    refine wp rfl hC (oc_load hC (v := .ag (I .u64 (w2 R))) (.tmp rfl) t_3 shp_93 t_1w rfl rfl) ?_
    refine wp rfl hC t_1l ?_
    refine WL_nil ?_
    refine W_blk ?_
    refine W_loopW (fun (ζ : Nat × List Nat) => ⟨4, [(3, .p 1 0), (4, .p 2 0), (5, .p 3 0), (17, .ag (I .u64 (w3 (A)))), (18, .i .i64 i), (6, .i .i64 i), (7, .i .u64 ((A / 18446744073709551616 ^ i % 18446744073709551616 : Nat) : Int)), (22, .ag (I .u64 (w2 R))), (23, .i .i64 ζ.1)], [(1, .blk 93 (I .u64 (w2 R))), (2, .blk 97 (I .u64 (List.replicate 3 0))), (3, .blk 111 (I .u64 (NI ζ.2)))]⟩) (fun ζ => ζ.1 ≤ 2 ∧ Dig ζ.2 ∧ dv ζ.2 = Tik A R i ζ.1) (fun ζ => 2 - ζ.1) (0, ds) ⟨Nat.zero_le _, hR.2.1, hR.2.2⟩ (weak (fun k => k) (.cons rfl t_5 t_6 (.cons rfl t_5 t_6 (.cons rfl t_5 t_6 (.cons rfl (ren_free _ _ (inSL_I _)) t_0 (.cons rfl t_2y trivial (.cons rfl t_2y trivial (.cons rfl rfl trivial (.cons rfl (ren_free _ _ (inSL_I _)) t_0 (.cons rfl rfl trivial .nil))))))))) (.cons rfl ren_blkI rfl t_0 (.cons rfl ren_blkI rfl t_0 (.cons rfl ren_blkI rfl t_0 .nil))) rfl rfl rfl) ?_
    rintro ⟨k, es⟩ hR
    replace hR : k ≤ 2 ∧ Dig es ∧ dv es = Tik A R i k := hR
    first | show W _ _ _ ⟨4, [(3, .p 1 0), (4, .p 2 0), (5, .p 3 0), (17, .ag (I .u64 (w3 (A)))), (18, .i .i64 i), (6, .i .i64 i), (7, .i .u64 ((A / 18446744073709551616 ^ i % 18446744073709551616 : Nat) : Int)), (22, .ag (I .u64 (w2 R))), (23, .i .i64 k)], [(1, .blk 93 (I .u64 (w2 R))), (2, .blk 97 (I .u64 (List.replicate 3 0))), (3, .blk 111 (I .u64 (NI es)))]⟩ | skip
    refine wsr ?_
    refine wp rfl hC t_11 ?_
    refine WL_nil ?_
    refine W_seq ?_
    refine W_cond rfl (by decide) (fun hc => ?_) (fun hc => ?_)
    ·
      replace hc := lss_t hc
      have hk : k < 2 := by omega
      have hd := hR.2.1
      have hdl := hd.len
      refine W_skip ?_
      refine W_seq ?_
      refine W_blk ?_
      refine wsr ?_
      refine wp rfl hC t_1 ?_
      refine wp rfl hC (ox_index hC  (.tmp rfl) (.tmp rfl) elt_93 t_u t_2 t_d t_2 (by exact (unit_at (by show k < 2; omega) (w2_get hk hR2))) rfl rfl) ?_
      refine wp rfl hC t_4 ?_
      refine wp rfl hC t_4 ?_
      refine WL_nil ?_
      refine wsr ?_
      refine wp rfl hC t_1 ?_
      refine wp rfl hC t_1 ?_
      refine wp rfl hC (oc_call hC (.cons (.tmp rfl) (.cons (.tmp rfl) .nil)) (.cons1 (.free t_0) (.cons1 (.free t_0) (.same t_0))) (mul64_c (A / 18446744073709551616 ^ i % 18446744073709551616) (R / 18446744073709551616 ^ k % 18446744073709551616) (by omega) (by omega)) glob_nil t_0 t_8 rfl rfl) ?_
      refine wp rfl hC t_1 ?_
      refine wp rfl hC t_l ?_
      refine wp rfl hC t_l ?_
      refine wp rfl hC t_4 ?_
      refine wp rfl hC t_4 ?_
      refine WL_nil ?_
      refine wsr ?_
      refine wp rfl hC t_k ?_
      refine WL_nil ?_
      refine wsr ?_
      obtain ⟨s1, c1, hs1, hc1⟩ : ∃ s_ c_ : Nat, (es.getD (i + k) 0 + (A / 18446744073709551616 ^ i % 18446744073709551616) * (R / 18446744073709551616 ^ k % 18446744073709551616) % 18446744073709551616 + 0) % 18446744073709551616 = s_ ∧ (es.getD (i + k) 0 + (A / 18446744073709551616 ^ i % 18446744073709551616) * (R / 18446744073709551616 ^ k % 18446744073709551616) % 18446744073709551616 + 0) / 18446744073709551616 = c_ := ⟨_, _, rfl, rfl⟩
      have hg1 := hd.get (i + k)
      have hd1 : Dig (es.set (i + k) s1) := hd.set (by omega)
      have hd1l := hd1.len
      refine wp rfl hC t_1 ?_
      refine wp rfl hC t_1 ?_
      refine wp rfl hC t_2i ?_
      refine wp rfl hC t_1 ?_
      refine wp rfl hC t_1 ?_
      refine wp rfl hC t_2i ?_
      refine wp rfl hC (ox_indexA hC (j := i + k) (.tmp rfl) (.tmp rfl) idx_111 t_w t_2 t_d t_34 rfl rfl) ?_
      refine wp rfl hC (oc_load hC (v := .i .u64 ((es.getD (i + k) 0 : Nat) : Int)) (.tmp rfl) t_3 shp_50 t_1x rfl rfl) ?_
      refine wp rfl hC t_1 ?_
      refine wp rfl hC (oc_add64 (x := es.getD (i + k) 0) (y := (A / 18446744073709551616 ^ i % 18446744073709551616) * (R / 18446744073709551616 ^ k % 18446744073709551616) % 18446744073709551616) (c := 0) (s := s1) (t := c1) hC ext_92 (.tmp rfl) (.tmp rfl) .cint t_j hs1 hc1 rfl rfl) ?_
      refine wp rfl hC t_1 ?_
      refine wp rfl hC t_l ?_
      refine wp rfl hC t_l ?_
      refine wp rfl hC (ox_indexA hC (j := i + k) (.tmp rfl) (.tmp rfl) idx_111 t_w t_2 t_d t_34 rfl rfl) ?_
      refine wp rfl hC (ox_store (bk' := .blk 111 (I .u64 (NI (es.set (i + k) s1)))) hC (.tmp rfl) (.tmp rfl) rfl shp_50 t_h rfl t_s (put_blkN (by omega)) t_f rfl) ?_
      refine wp rfl hC t_4 ?_
      refine WL_nil ?_
      refine wsr ?_
      obtain ⟨s2, c2, hs2, hc2⟩ : ∃ s_ c_ : Nat, ((es.set (i + k) s1).getD (i + k + 1) 0 + (A / 18446744073709551616 ^ i % 18446744073709551616) * (R / 18446744073709551616 ^ k % 18446744073709551616) / 18446744073709551616 + c1) % 18446744073709551616 = s_ ∧ ((es.set (i + k) s1).getD (i + k + 1) 0 + (A / 18446744073709551616 ^ i % 18446744073709551616) * (R / 18446744073709551616 ^ k % 18446744073709551616) / 18446744073709551616 + c1) / 18446744073709551616 = c_ := ⟨_, _, rfl, rfl⟩
      have hg2 := hd1.get (i + k + 1)
      have hd2 : Dig ((es.set (i + k) s1).set (i + k + 1) s2) := hd1.set (by omega)
      have hhi : (A / 18446744073709551616 ^ i % 18446744073709551616) * (R / 18446744073709551616 ^ k % 18446744073709551616) ≤ 340282366920938463426481119284349108225 := Nat.mul_le_mul (show _ ≤ 18446744073709551615 by omega) (show _ ≤ 18446744073709551615 by omega)
      have e1 := dv_step (l := es) (m := i + k) (s := s1) (c := c1) (x := (A / 18446744073709551616 ^ i % 18446744073709551616) * (R / 18446744073709551616 ^ k % 18446744073709551616) % 18446744073709551616) (by omega) (by omega)
      have e2 := dv_step (l := (es.set (i + k) s1)) (m := i + k + 1) (s := s2) (c := c2) (x := (A / 18446744073709551616 ^ i % 18446744073709551616) * (R / 18446744073709551616 ^ k % 18446744073709551616) / 18446744073709551616 + c1) (by omega) (by omega)
      have e3 := Tik_k A R i k
      have e4 := hR.2.2
      refine wp rfl hC t_1 ?_
      refine wp rfl hC t_1 ?_
      refine wp rfl hC t_2i ?_
      refine wp rfl hC (oc_bin hC rfl (.tmp rfl) .cint (r := ((i + k + 1 : Nat) : Int)) (nadd (y := 1) (by omega)) rfl rfl) ?_
      refine wp rfl hC t_1 ?_
      refine wp rfl hC t_1 ?_
      refine wp rfl hC t_2i ?_
      refine wp rfl hC (oc_bin hC rfl (.tmp rfl) .cint (r := ((i + k + 1 : Nat) : Int)) (nadd (y := 1) (by omega)) rfl rfl) ?_
      refine wp rfl hC (ox_indexA hC (j := i + k + 1) (.tmp rfl) (.tmp rfl) idx_111 t_w t_2 t_d t_34 rfl rfl) ?_
      refine wp rfl hC (oc_load hC (v := .i .u64 (((es.set (i + k) s1).getD (i + k + 1) 0 : Nat) : Int)) (.tmp rfl) t_3 shp_50 t_1x rfl rfl) ?_
      refine wp rfl hC t_1 ?_
      refine wp rfl hC t_1 ?_
      refine wp rfl hC (oc_add64 (x := (es.set (i + k) s1).getD (i + k + 1) 0) (y := (A / 18446744073709551616 ^ i % 18446744073709551616) * (R / 18446744073709551616 ^ k % 18446744073709551616) / 18446744073709551616) (c := c1) (s := s2) (t := c2) hC ext_92 (.tmp rfl) (.tmp rfl) (.tmp rfl) t_j hs2 hc2 rfl rfl) ?_
      refine wp rfl hC t_1 ?_
      refine wp rfl hC t_l ?_
      refine wp rfl hC t_l ?_
      refine wp rfl hC (ox_indexA hC (j := i + k + 1) (.tmp rfl) (.tmp rfl) idx_111 t_w t_2 t_d t_34 rfl rfl) ?_
      refine wp rfl hC (ox_store (bk' := .blk 111 (I .u64 (NI ((es.set (i + k) s1).set (i + k + 1) s2)))) hC (.tmp rfl) (.tmp rfl) rfl shp_50 t_h rfl t_s (put_blkN (by omega)) t_f rfl) ?_
      refine wp rfl hC t_4 ?_
      refine WL_nil ?_
      refine wsr ?_
      refine wp rfl hC t_1 ?_
      refine wp rfl hC t_1 ?_
      refine wp rfl hC t_2i ?_
      refine wp rfl hC (oc_bin hC rfl (.tmp rfl) .cint (r := ((i + k + 2 : Nat) : Int)) (nadd (y := 2) (by omega)) rfl rfl) ?_
      refine wp rfl hC t_4 ?_
      refine WL_nil ?_
      refine W_blk ?_
      refine W_loopW (fun (ζ : Nat × Nat × List Nat) => ⟨4, [(3, .p 1 0), (4, .p 2 0), (5, .p 3 0), (17, .ag (I .u64 (w3 (A)))), (18, .i .i64 i), (6, .i .i64 i), (7, .i .u64 ((A / 18446744073709551616 ^ i % 18446744073709551616 : Nat) : Int)), (22, .ag (I .u64 (w2 R))), (23, .i .i64 k), (12, .i .u64 ((ζ.2.1 : Nat) : Int)), (13, .i .i64 ζ.1)], [(1, .blk 93 (I .u64 (w2 R))), (2, .blk 97 (I .u64 (List.replicate 3 0))), (3, .blk 111 (I .u64 (NI ζ.2.2)))]⟩) (fun ζ => ζ.1 ≤ 5 ∧ ζ.2.1 ≤ 1 ∧ Dig ζ.2.2 ∧ dv ζ.2.2 + ζ.2.1 * 18446744073709551616 ^ ζ.1 = Tik A R i (k + 1)) (fun ζ => 5 - ζ.1) (i + k + 2, c2, ((es.set (i + k) s1).set (i + k + 1) s2)) ⟨by show i + k + 2 ≤ 5; omega, by show c2 ≤ 1; omega, hd2, by show dv ((es.set (i + k) s1).set (i + k + 1) s2) + c2 * 18446744073709551616 ^ (i + k + 2) = _; exact step_join e1 e2 e3 e4⟩ (weak (fun k => k) (.cons rfl t_5 t_6 (.cons rfl t_5 t_6 (.cons rfl t_5 t_6 (.cons rfl (ren_free _ _ (inSL_I _)) t_0 (.cons rfl t_2y trivial (.cons rfl t_2y trivial (.cons rfl rfl trivial (.cons rfl (ren_free _ _ (inSL_I _)) t_0 (.cons rfl t_2y trivial (.cons rfl rfl trivial (.cons rfl rfl trivial .nil))))))))))) (.cons rfl ren_blkI rfl t_0 (.cons rfl ren_blkI rfl t_0 (.cons rfl ren_blkI rfl t_0 .nil))) rfl rfl rfl) ?_
      rintro ⟨j, c, fs⟩ hR
      replace hR : j ≤ 5 ∧ c ≤ 1 ∧ Dig fs ∧ dv fs + c * 18446744073709551616 ^ j = Tik A R i (k + 1) := hR
      first | show W _ _ _ ⟨4, [(3, .p 1 0), (4, .p 2 0), (5, .p 3 0), (17, .ag (I .u64 (w3 (A)))), (18, .i .i64 i), (6, .i .i64 i), (7, .i .u64 ((A / 18446744073709551616 ^ i % 18446744073709551616 : Nat) : Int)), (22, .ag (I .u64 (w2 R))), (23, .i .i64 k), (12, .i .u64 ((c : Nat) : Int)), (13, .i .i64 j)], [(1, .blk 93 (I .u64 (w2 R))), (2, .blk 97 (I .u64 (List.replicate 3 0))), (3, .blk 111 (I .u64 (NI fs)))]⟩ | skip
      refine W_seq ?_
      refine wsr ?_
      refine wp rfl hC t_1 ?_
      refine wp rfl hC t_11 ?_
      refine WL_nil ?_
      refine W_cond rfl (by decide) (fun hc => ?_) (fun hc => ?_)
      ·
        replace hc := lss_t hc
        have hj : j < 5 := by omega
        have hg := hR.2.2.1.get j
        have hfl := hR.2.2.1.len
        obtain ⟨s3, c3, hs3, hc3⟩ : ∃ s_ c_ : Nat, (fs.getD (j) 0 + 0 + c) % 18446744073709551616 = s_ ∧ (fs.getD (j) 0 + 0 + c) / 18446744073709551616 = c_ := ⟨_, _, rfl, rfl⟩
        refine W_skip ?_
        refine W_seq ?_
        refine W_blk ?_
        refine W_region ?_
        refine wp rfl hC t_1 ?_
        refine wp rfl hC t_1 ?_
        refine wp rfl hC (ox_indexA hC (j := j) (.tmp rfl) (.tmp rfl) idx_111 t_w t_2 t_d t_34 rfl rfl) ?_
        refine wp rfl hC (oc_load hC (v := .i .u64 ((fs.getD j 0 : Nat) : Int)) (.tmp rfl) t_3 shp_50 t_1x rfl rfl) ?_
        refine wp rfl hC t_1 ?_
        refine wp rfl hC (oc_add64 (x := fs.getD j 0) (y := 0) (c := c) (s := s3) (t := c3) hC ext_92 (.tmp rfl) .cint (.tmp rfl) hR.2.1 hs3 hc3 rfl rfl) ?_
        refine wp rfl hC t_1 ?_
        refine wp rfl hC t_l ?_
        refine wp rfl hC t_l ?_
        refine wp rfl hC (ox_indexA hC (j := j) (.tmp rfl) (.tmp rfl) idx_111 t_w t_2 t_d t_34 rfl rfl) ?_
        refine wp rfl hC (ox_store (bk' := .blk 111 (I .u64 (NI (fs.set j s3)))) hC (.tmp rfl) (.tmp rfl) rfl shp_50 t_h rfl t_s (put_blkN (by omega)) t_f rfl) ?_
        refine wp rfl hC t_4 ?_
        refine WL_nil ?_
        refine W_region ?_
        refine wp rfl hC t_1 ?_
        refine wp rfl hC t_36 ?_
        refine wp rfl hC t_4 ?_
        refine WL_nil ?_
        exact ⟨(j + 1, c3, (fs.set j s3)), ⟨by show j + 1 ≤ 5; omega, by show c3 ≤ 1; omega, hR.2.2.1.set (by omega), by show dv (fs.set j s3) + c3 * 18446744073709551616 ^ (j + 1) = _; rw [dv_step (l := fs) (m := j) (s := s3) (c := c3) (x := c) (by omega) (by omega)]; exact hR.2.2.2⟩, (weak (fun k => k) (.cons rfl t_5 t_6 (.cons rfl t_5 t_6 (.cons rfl t_5 t_6 (.cons rfl t_30 t_0 (.cons rfl t_2y trivial (.cons rfl t_2y trivial (.cons rfl rfl trivial (.cons rfl t_30 t_0 (.cons rfl t_2y trivial (.cons rfl rfl trivial (.cons rfl t_2y trivial .nil))))))))))) (.cons rfl ren_blkI rfl t_0 (.cons rfl ren_blkI rfl t_0 (.cons rfl ren_blkI rfl t_0 .nil))) rfl rfl rfl), (by show 5 - (j + 1) < 5 - j; omega)⟩
      ·
        replace hc := lss_f hc
        have hj : j = 5 := by omega
        have hfin : dv fs = Tik A R i (k + 1) := by
          have h1 := hR.2.2.2
          have h2 := hle i (k + 1)
          have h3 := hR.2.1
          rw [hj] at h1
          have h5 : 18446744073709551616 ^ 5 = 2135987035920910082395021706169552114602704522356652769947041607822219725780640550022962086936576 := by decide
          rw [h5] at h1
          rcases (show c = 0 ∨ c = 1 by omega) with rfl | rfl <;> omega
        refine W_exit ?_
        refine W_region ?_
        refine wp rfl hC t_36 ?_
        refine wp rfl hC t_1 ?_
        refine WL_nil ?_
        exact ⟨(k + 1, fs), ⟨by show k + 1 ≤ 2; omega, hR.2.2.1, by show dv fs = _; exact hfin⟩, (weak (fun k => k) (.cons rfl t_5 t_6 (.cons rfl t_5 t_6 (.cons rfl t_5 t_6 (.cons rfl t_30 t_0 (.cons rfl t_2y trivial (.cons rfl t_2y trivial (.cons rfl rfl trivial (.cons rfl t_30 t_0 (.cons rfl t_2y trivial .nil))))))))) (.cons rfl ren_blkI rfl t_0 (.cons rfl ren_blkI rfl t_0 (.cons rfl ren_blkI rfl t_0 .nil))) rfl rfl rfl), (by show 2 - (k + 1) < 2 - k; omega)⟩
    ·
      replace hc := lss_f hc
      have hk2 : k = 2 := by omega
      refine W_exit ?_
      refine W_region ?_
      refine wp rfl hC t_36 ?_
      refine wp rfl hC t_1 ?_
      refine WL_nil ?_
      exact ⟨(i + 1, es), ⟨by show i + 1 ≤ 3; omega, hR.2.1, by show dv es = _; rw [hR.2.2, hk2, Tik_i (Nat.lt_of_lt_of_le hR2 (by decide))]⟩, (weak (fun k => k) (.cons rfl t_5 t_6 (.cons rfl t_5 t_6 (.cons rfl t_5 t_6 (.cons rfl t_30 t_0 (.cons rfl t_2y trivial .nil))))) (.cons rfl ren_blkI rfl t_0 (.cons rfl ren_blkI rfl t_0 (.cons rfl ren_blkI rfl t_0 .nil))) rfl rfl rfl), (by show 3 - (i + 1) < 3 - i; omega)⟩
  ·
    replace hc := lss_f hc
    have hi : i = 3 := by omega
    have hQ0 := hR.2.2
    rw [hi, Tik_end (Nat.lt_of_lt_of_le hA3 (by decide))] at hQ0
    obtain ⟨Q, hQ⟩ : ∃ Q, A * R = Q := ⟨_, rfl⟩
    rw [hQ] at hQ0 hb ⊢
    obtain ⟨hv0, hv1, hv2, hv3, hv4⟩ := hR.2.1.vals hQ0
    have h4 := quads (Q := Q)
    have hB : Q / 1361129467683753853853498429727072845824 < 680564733841876926926749214863536422912 := by omega
    have hfm := fold_mod (Q % 1361129467683753853853498429727072845824 + Q / 1361129467683753853853498429727072845824 + 4 * (Q / 1361129467683753853853498429727072845824))
    have hfm2 := fold_mod Q
    have hS : (Q % 1361129467683753853853498429727072845824 + Q / 1361129467683753853853498429727072845824 + 4 * (Q / 1361129467683753853853498429727072845824)) < 13611294676837538538534984297270728458240 := by omega
    refine W_exit ?_
    refine wsr ?_
    refine wp rfl hC (ox_indexA hC (j := 0) (.tmp rfl) .cint idx_111 rfl t_2 t_d t_34 rfl rfl) ?_
    refine wp rfl hC (oc_load hC (v := .i .u64 ((Q % 18446744073709551616 : Nat) : Int)) (.tmp rfl) t_3 shp_50 (by exact (unit_vN t_27 hv0)) rfl rfl) ?_
    refine wp rfl hC (ox_indexA hC (j := 1) (.tmp rfl) .cint idx_111 rfl t_2 t_d t_34 rfl rfl) ?_
    refine wp rfl hC (oc_load hC (v := .i .u64 ((Q / 18446744073709551616 % 18446744073709551616 : Nat) : Int)) (.tmp rfl) t_3 shp_50 (by exact (unit_vN t_27 hv1)) rfl rfl) ?_
    refine wp rfl hC (ox_indexA hC (j := 2) (.tmp rfl) .cint idx_111 rfl t_2 t_d t_34 rfl rfl) ?_
    refine wp rfl hC t_63 ?_
    refine wp rfl hC (oc_bin hC rfl (.tmp rfl) .cint (r := ((Q / 18446744073709551616 / 18446744073709551616 % 4 : Nat) : Int)) ((and_3 (by omega)).trans (congrArg Nat.cast (by omega))) rfl rfl) ?_
    refine wp rfl hC t_55 ?_
    refine wp rfl hC t_23 ?_
    refine wp rfl hC (ox_store (bk' := .blk 97 (I .u64 (w3 (Q % 1361129467683753853853498429727072845824)))) hC (.tmp rfl) (.tmp rfl) rfl shp_97 t_h rfl t_s (by rw [w3_130]; exact put_all rfl) t_f rfl) ?_
    refine WL_nil ?_
    refine wsr ?_
    refine wp rfl hC (ox_indexA hC (j := 2) (.tmp rfl) .cint idx_111 rfl t_2 t_d t_34 rfl rfl) ?_
    refine wp rfl hC t_63 ?_
    refine wp rfl hC (oc_shift hC (.inr rfl) (.tmp rfl) .cint t_j (r := ((Q / 18446744073709551616 / 18446744073709551616 % 18446744073709551616 / 4 : Nat) : Int)) shr_2 rfl rfl) ?_
    refine wp rfl hC (ox_indexA hC (j := 3) (.tmp rfl) .cint idx_111 rfl t_2 t_d t_34 rfl rfl) ?_
    refine wp rfl hC t_67 ?_
    refine wp rfl hC (oc_shift hC (.inl rfl) (.tmp rfl) .cint t_j (r := ((Q / 18446744073709551616 / 18446744073709551616 / 18446744073709551616 % 18446744073709551616 % 4 * 4611686018427387904 : Nat) : Int)) shl_62 rfl rfl) ?_
    refine wp rfl hC (oc_bin hC rfl (.tmp rfl) (.tmp rfl) (r := ((Q / 1361129467683753853853498429727072845824 % 18446744073709551616 : Nat) : Int)) ((or_lo62 (by omega) (by omega)).trans (congrArg Nat.cast (by rw [h4]; exact above0 _))) rfl rfl) ?_
    refine wp rfl hC (ox_indexA hC (j := 3) (.tmp rfl) .cint idx_111 rfl t_2 t_d t_34 rfl rfl) ?_
    refine wp rfl hC t_67 ?_
    refine wp rfl hC (oc_shift hC (.inr rfl) (.tmp rfl) .cint t_j (r := ((Q / 18446744073709551616 / 18446744073709551616 / 18446744073709551616 % 18446744073709551616 / 4 : Nat) : Int)) shr_2 rfl rfl) ?_
    refine wp rfl hC (ox_indexA hC (j := 4) (.tmp rfl) .cint idx_111 rfl t_2 t_d t_34 rfl rfl) ?_
    refine wp rfl hC t_68 ?_
    refine wp rfl hC (oc_shift hC (.inl rfl) (.tmp rfl) .cint t_j (r := ((Q / 18446744073709551616 / 18446744073709551616 / 18446744073709551616 / 18446744073709551616 % 4 * 4611686018427387904 : Nat) : Int)) shl_62 rfl rfl) ?_
    refine wp rfl hC (oc_bin hC rfl (.tmp rfl) (.tmp rfl) (r := ((Q / 1361129467683753853853498429727072845824 / 18446744073709551616 % 18446744073709551616 : Nat) : Int)) ((or_lo62 (by omega) (by omega)).trans (congrArg Nat.cast (by rw [h4]; exact above1 _))) rfl rfl) ?_
    refine wp rfl hC (ox_indexA hC (j := 4) (.tmp rfl) .cint idx_111 rfl t_2 t_d t_34 rfl rfl) ?_
    refine wp rfl hC t_68 ?_
    refine wp rfl hC (oc_shift hC (.inr rfl) (.tmp rfl) .cint t_j (r := ((Q / 1361129467683753853853498429727072845824 / 18446744073709551616 / 18446744073709551616 : Nat) : Int)) ((shr_2).trans (congrArg Nat.cast (by rw [h4]; exact above2 _))) rfl rfl) ?_
    refine wp rfl hC t_55 ?_
    refine wp rfl hC t_23 ?_
    refine wp rfl hC (ox_store (bk' := .blk 97 (I .u64 (w3 (Q / 1361129467683753853853498429727072845824)))) hC (.tmp rfl) (.tmp rfl) rfl shp_97 t_h rfl t_s (put_all rfl) t_f rfl) ?_
    refine WL_nil ?_
    refine wsr ?_
    refine wp rfl hC t_74 ?_
    refine wp rfl hC t_80 ?_
    refine wp rfl hC (oc_shift hC (.inl rfl) (.tmp rfl) .cint t_j (r := ((4 * (Q / 1361129467683753853853498429727072845824) % 18446744073709551616 : Nat) : Int)) ((shl_2).trans (congrArg Nat.cast (by omega))) rfl rfl) ?_
    refine wp rfl hC t_75 ?_
    refine wp rfl hC t_83 ?_
    refine wp rfl hC (oc_shift hC (.inl rfl) (.tmp rfl) .cint t_j (r := ((Q / 1361129467683753853853498429727072845824 / 18446744073709551616 % 18446744073709551616 % 4611686018427387904 * 4 : Nat) : Int)) shl_2 rfl rfl) ?_
    refine wp rfl hC t_74 ?_
    refine wp rfl hC t_80 ?_
    refine wp rfl hC (oc_shift hC (.inr rfl) (.tmp rfl) .cint t_j (r := ((Q / 1361129467683753853853498429727072845824 % 18446744073709551616 / 4611686018427387904 : Nat) : Int)) shr_62 rfl rfl) ?_
    refine wp rfl hC (oc_bin hC rfl (.tmp rfl) (.tmp rfl) (r := ((4 * (Q / 1361129467683753853853498429727072845824) / 18446744073709551616 % 18446744073709551616 : Nat) : Int)) ((or_hi2 (by omega) (by omega)).trans (congrArg Nat.cast (four1 _))) rfl rfl) ?_
    refine wp rfl hC t_71 ?_
    refine wp rfl hC (oc_load hC (v := .i .u64 ((Q / 1361129467683753853853498429727072845824 / 18446744073709551616 / 18446744073709551616 : Nat) : Int)) (.tmp rfl) t_3 shp_50 t_3r rfl rfl) ?_
    refine wp rfl hC (oc_shift hC (.inl rfl) (.tmp rfl) .cint t_j (r := ((Q / 1361129467683753853853498429727072845824 / 18446744073709551616 / 18446744073709551616 % 4611686018427387904 * 4 : Nat) : Int)) shl_2 rfl rfl) ?_
    refine wp rfl hC t_75 ?_
    refine wp rfl hC t_83 ?_
    refine wp rfl hC (oc_shift hC (.inr rfl) (.tmp rfl) .cint t_j (r := ((Q / 1361129467683753853853498429727072845824 / 18446744073709551616 % 18446744073709551616 / 4611686018427387904 : Nat) : Int)) shr_62 rfl rfl) ?_
    refine wp rfl hC (oc_bin hC rfl (.tmp rfl) (.tmp rfl) (r := ((4 * (Q / 1361129467683753853853498429727072845824) / 18446744073709551616 / 18446744073709551616 : Nat) : Int)) ((or_hi2 (by omega) (by omega)).trans (congrArg Nat.cast (four2 hB))) rfl rfl) ?_
    refine wp rfl hC t_55 ?_
    refine wp rfl hC t_23 ?_
    refine wp rfl hC (ox_store (bk' := .blk 97 (I .u64 (w3 (4 * (Q / 1361129467683753853853498429727072845824))))) hC (.tmp rfl) (.tmp rfl) rfl shp_97 t_h rfl t_s (put_all rfl) t_f rfl) ?_
    refine WL_nil ?_
    refine W_seq ?_
    refine W_drawD hC ?_
    refine WD_cons (.plain rfl (oc_load hC (v := .ag (I .u64 (w3 (Q % 1361129467683753853853498429727072845824)))) (.tmp rfl) t_3 shp_97 t_1w rfl rfl)) ?_
    refine WD_cons (.plain rfl (oc_load hC (v := .ag (I .u64 (w3 (Q / 1361129467683753853853498429727072845824)))) (.tmp rfl) t_3 shp_97 t_1w rfl rfl)) ?_
    refine WD_cons (.plain rfl (oc_call hC (.cons (.tmp rfl) (.cons (.tmp rfl) .nil)) (.cons1 (.free t_0) (.cons1 (.free t_0) (.same t_0))) (padd_c (Q % 1361129467683753853853498429727072845824) (Q / 1361129467683753853853498429727072845824) (by omega)) glob_nil t_0 t_8 rfl rfl)) ?_
    refine WD_cons (.plain rfl (oc_load hC (v := .ag (I .u64 (w3 (4 * (Q / 1361129467683753853853498429727072845824))))) (.tmp rfl) t_3 shp_97 t_1w rfl rfl)) ?_
    refine WD_cons (.plain rfl (oc_call hC (.cons (.tmp rfl) (.cons (.tmp rfl) .nil)) (.cons1 (.free t_0) (.cons1 (.free t_0) (.same t_0))) (padd_c (Q % 1361129467683753853853498429727072845824 + Q / 1361129467683753853853498429727072845824) (4 * (Q / 1361129467683753853853498429727072845824)) (by omega)) glob_nil t_0 t_8 rfl rfl)) ?_
    refine WD_cons (.plain rfl (oc_call hC (.cons (.tmp rfl) .nil) (.cons1 (.free t_0) (.same t_0)) (pfold_c (Q % 1361129467683753853853498429727072845824 + Q / 1361129467683753853853498429727072845824 + 4 * (Q / 1361129467683753853853498429727072845824)) (by omega)) glob_nil t_0 t_8 rfl rfl)) ?_
    refine WD_cons (.plain rfl (oc_call hC (.cons (.tmp rfl) .nil) (.cons1 (.free t_0) (.same t_0)) (pless_c ((Q % 1361129467683753853853498429727072845824 + Q / 1361129467683753853853498429727072845824 + 4 * (Q / 1361129467683753853853498429727072845824)) % 1361129467683753853853498429727072845824 + 5 * ((Q % 1361129467683753853853498429727072845824 + Q / 1361129467683753853853498429727072845824 + 4 * (Q / 1361129467683753853853498429727072845824)) / 1361129467683753853853498429727072845824)) (by omega)) glob_nil t_0 t_8 rfl rfl)) ?_
    refine WD_cons (.plain rfl (oc_call hC (.cons (.tmp rfl) .nil) (.cons1 (.free t_0) (.same t_0)) (pless_lt (((Q % 1361129467683753853853498429727072845824 + Q / 1361129467683753853853498429727072845824 + 4 * (Q / 1361129467683753853853498429727072845824)) % 1361129467683753853853498429727072845824 + 5 * ((Q % 1361129467683753853853498429727072845824 + Q / 1361129467683753853853498429727072845824 + 4 * (Q / 1361129467683753853853498429727072845824)) / 1361129467683753853853498429727072845824)) % 1361129467683753853853498429727072845819) (Nat.mod_lt _ (by decide))) glob_nil t_0 t_8 rfl rfl)) ?_
    rw [show ((Q % 1361129467683753853853498429727072845824 + Q / 1361129467683753853853498429727072845824 + 4 * (Q / 1361129467683753853853498429727072845824)) % 1361129467683753853853498429727072845824 + 5 * ((Q % 1361129467683753853853498429727072845824 + Q / 1361129467683753853853498429727072845824 + 4 * (Q / 1361129467683753853853498429727072845824)) / 1361129467683753853853498429727072845824)) % 1361129467683753853853498429727072845819 = Q % 1361129467683753853853498429727072845819 by rw [hfm, ← hfm2]; congr 1; omega]
    refine WD_cons (.plain rfl (ox_store (bk' := .blk 97 (I .u64 (w3 (Q % 1361129467683753853853498429727072845819)))) hC (.tmp rfl) (.tmp rfl) rfl shp_97 t_h rfl t_s rfl t_f rfl)) ?_
    refine WD_nil t_x ?_
    refine W_ret ?_
    exact fin0 (.cons (.cell rfl (.p rfl) shp_97 (unit_all rfl)) .nil) rfl (inSL_I _)
set_option maxRecDepth 20000 in
set_option maxHeartbeats 4000000 in
theorem pclamp_c (r : List Int) (hl : r.length = 16) (hb : B8 r) : FnC Tryd.prog 69 [] [.ag (I .u8 r)] [] [] (.ag (I .u8 (clampL r))) := by
  refine FnC.introR (N0 := 0) (T := 24) (E := [(0, .ag (I .u8 r))]) Tryd.func69 rfl (by decide) mix rfl rfl rfl (by simp) rfl ⟨t_b, trivial⟩ (by simp) t_10 (fun F n0 X w ρ hC hro => ?_)
  refine wsr ?_
  refine wp rfl hC t_3j ?_
  refine wp rfl hC t_2d ?_
  refine WL_nil ?_
  refine W_seq ?_
  refine wsr ?_
  refine wp rfl hC t_k ?_
  refine WL_nil ?_
  refine W_blk ?_
  refine W_loopW (fun (ζ : Nat) => ⟨2, [(1, .p 0 0), (2, .p 1 0), (3, .i .i64 ζ)], [(0, .blk 23 (I .u8 (clampA ζ r))), (1, .blk 23 (I .u8 (List.replicate 16 0)))]⟩) (fun ζ => ζ % 4 = 3 ∧ ζ ≤ 19) (fun ζ => 19 - ζ) (3) ⟨rfl, by decide⟩ (weak (fun k => k) (.cons rfl t_5 t_6 (.cons rfl t_5 t_6 (.cons rfl rfl trivial .nil))) (.cons rfl (renBlk (clampA_zero hl)) rfl t_0 (.cons rfl ren_blkI rfl t_0 .nil)) rfl rfl rfl) ?_
  intro t hR
  replace hR : t % 4 = 3 ∧ t ≤ 19 := hR
  first | show W _ _ _ ⟨2, [(1, .p 0 0), (2, .p 1 0), (3, .i .i64 t)], [(0, .blk 23 (I .u8 (clampA t r))), (1, .blk 23 (I .u8 (List.replicate 16 0)))]⟩ | skip
  refine W_seq ?_
  refine wsr ?_
  refine wp rfl hC t_1 ?_
  refine wp rfl hC t_11 ?_
  refine WL_nil ?_
  refine W_cond rfl (by decide) (fun hc => ?_) (fun hc => ?_)
  ·
    replace hc := lss_t hc
    have hcl := length_clampA t r
    refine W_skip ?_
    refine W_seq ?_
    refine W_blk ?_
    refine W_region ?_
    refine wp rfl hC t_1 ?_
    refine wp rfl hC t_7o ?_
    refine wp rfl hC (oc_load hC (v := .i .u8 (r.getD t 0)) (.tmp rfl) t_3 shp_5 (by exact (unit_at (by rw [hcl]; omega) (clampA_get (by omega)))) rfl rfl) ?_
    refine wp rfl hC (oc_bin hC rfl (.tmp rfl) .cint (r := (r.getD t 0 % 16)) (and_15 (hb.get t)) rfl rfl) ?_
    refine wp rfl hC t_7o ?_
    refine wp rfl hC (ox_store (bk' := .blk 23 (I .u8 ((clampA t r).set t (r.getD t 0 % 16)))) hC (.tmp rfl) (.tmp rfl) rfl shp_5 t_h t_18 t_s (put_blkI (by omega)) t_f rfl) ?_
    refine WL_nil ?_
    refine W_region ?_
    refine wp rfl hC t_1 ?_
    refine wp rfl hC (oc_bin hC rfl (.tmp rfl) .cint (r := ((t + 4 : Nat) : Int)) (nadd (y := 4) (by omega)) rfl rfl) ?_
    refine wp rfl hC t_4 ?_
    refine WL_nil ?_
    exact ⟨(t + 4), ⟨by omega, by omega⟩, (weak (fun k => k) (.cons rfl t_5 t_6 (.cons rfl t_5 t_6 (.cons rfl t_2y trivial .nil))) (.cons rfl (renBlk (clampA_succ (by omega) (by omega)).symm) rfl t_0 (.cons rfl ren_blkI rfl t_0 .nil)) rfl rfl rfl), (by omega)⟩
  ·
    replace hc := lss_f hc
    obtain rfl : t = 19 := by omega
    refine W_exit ?_
    refine W_seq ?_
    refine wsr ?_
    refine wp rfl hC t_k ?_
    refine WL_nil ?_
    refine W_blk ?_
    refine W_loopW (fun (ζ : Nat) => ⟨2, [(1, .p 0 0), (2, .p 1 0), (4, .i .i64 ζ)], [(0, .blk 23 (I .u8 (clampB ζ r))), (1, .blk 23 (I .u8 (List.replicate 16 0)))]⟩) (fun ζ => ζ % 4 = 0 ∧ 0 < ζ ∧ ζ ≤ 16) (fun ζ => 16 - ζ) (4) ⟨rfl, by decide, by decide⟩ (weak (fun k => k) (.cons rfl t_5 t_6 (.cons rfl t_5 t_6 (.cons rfl rfl trivial .nil))) (.cons rfl (renBlk clampB_zero.symm) rfl t_0 (.cons rfl ren_blkI rfl t_0 .nil)) rfl rfl rfl) ?_
    intro t hR
    replace hR : t % 4 = 0 ∧ 0 < t ∧ t ≤ 16 := hR
    first | show W _ _ _ ⟨2, [(1, .p 0 0), (2, .p 1 0), (4, .i .i64 t)], [(0, .blk 23 (I .u8 (clampB t r))), (1, .blk 23 (I .u8 (List.replicate 16 0)))]⟩ | skip
    refine W_seq ?_
    refine wsr ?_
    refine wp rfl hC t_1 ?_
    refine wp rfl hC t_11 ?_
    refine WL_nil ?_
    refine W_cond rfl (by decide) (fun hc => ?_) (fun hc => ?_)
    ·
      replace hc := lss_t hc
      have hcl := length_clampB t r
      refine W_skip ?_
      refine W_seq ?_
      refine W_blk ?_
      refine W_region ?_
      refine wp rfl hC t_1 ?_
      refine wp rfl hC t_7o ?_
      refine wp rfl hC (oc_load hC (v := .i .u8 (r.getD t 0)) (.tmp rfl) t_3 shp_5 (by exact (unit_at (by rw [hcl]; omega) (clampB_get (by omega) (by omega)))) rfl rfl) ?_
      refine wp rfl hC (oc_bin hC rfl (.tmp rfl) .cint (r := (r.getD t 0 / 4 * 4)) (andn_3 (hb.get t)) rfl rfl) ?_
      refine wp rfl hC t_7o ?_
      refine wp rfl hC (ox_store (bk' := .blk 23 (I .u8 ((clampB t r).set t (r.getD t 0 / 4 * 4)))) hC (.tmp rfl) (.tmp rfl) rfl shp_5 t_h t_18 t_s (put_blkI (by omega)) t_f rfl) ?_
      refine WL_nil ?_
      refine W_region ?_
      refine wp rfl hC t_1 ?_
      refine wp rfl hC (oc_bin hC rfl (.tmp rfl) .cint (r := ((t + 4 : Nat) : Int)) (nadd (y := 4) (by omega)) rfl rfl) ?_
      refine wp rfl hC t_4 ?_
      refine WL_nil ?_
      exact ⟨(t + 4), ⟨by omega, by omega, by omega⟩, (weak (fun k => k) (.cons rfl t_5 t_6 (.cons rfl t_5 t_6 (.cons rfl t_2y trivial .nil))) (.cons rfl (renBlk (clampB_succ (by omega) (by omega) (by omega)).symm) rfl t_0 (.cons rfl ren_blkI rfl t_0 .nil)) rfl rfl rfl), (by omega)⟩
    ·
      replace hc := lss_f hc
      obtain rfl : t = 16 := by omega
      rw [clampB_end]
      refine W_exit ?_
      refine wsr ?_
      refine wp rfl hC (oc_load hC (v := .ag (I .u8 (clampL r))) (.tmp rfl) t_3 shp_23 (by exact (unit_all (length_clampL r))) rfl rfl) ?_
      refine wp rfl hC (ox_store (bk' := .blk 23 (I .u8 (clampL r))) hC (.tmp rfl) (.tmp rfl) rfl shp_23 t_h (by rw [cells_ag, length_I, length_clampL]) t_s (put_allI (by rw [length_clampL]; rfl)) t_f rfl) ?_
      refine WL_nil ?_
      refine W_ret ?_
      exact fin0 (.cons (.cell rfl (.p rfl) shp_23 (unit_all (length_clampL r))) .nil) rfl (inSL_I _)
set_option maxRecDepth 20000 in
set_option maxHeartbeats 4000000 in
theorem ptag_c (key b : List Int) (hk : key.length = 32) (bk : B8 key) (bb : B8 b) (hl : b.length ≤ 1099511627776) : FnC Tryd.prog 49 [] [.ag (I .u8 key), .vs b.length (I .u8 b)] [] [] (.ag (I .u8 (tagL key b))) := by
  have htl : tagL key b = fixL (tagV (lb (clampL (key.take 16))) b + lb (key.drop 16)) 16 := by unfold tagL; rfl
  obtain ⟨Rn, hRn⟩ : ∃ Rn, lb (clampL (key.take 16)) = Rn := ⟨_, rfl⟩
  obtain ⟨Sn, hSn⟩ : ∃ Sn, lb (key.drop 16) = Sn := ⟨_, rfl⟩
  rw [hRn, hSn] at htl
  rw [htl]
  have l1 : (key.take 16).length = 16 := by rw [List.length_take]; omega
  have l2 : (key.drop 16).length = 16 := by rw [List.length_drop]; omega
  have b1 : B8 (key.take 16) := fun x hx => bk x (List.mem_of_mem_take hx)
  have b2 : B8 (key.drop 16) := fun x hx => bk x (List.mem_of_mem_drop hx)
  have hR := lb_lt16 (B8_clampL b1) (length_clampL _)
  have hS := lb_lt16 b2 l2
  rw [hRn] at hR
  rw [hSn] at hS
  have hT := tagV_lt Rn b
  have hsp := length_spl (ws := List.replicate 16 0) (off := 0) (l := fixL ((tagV Rn b + Sn) % 18446744073709551616) 8) (by rw [length_fixL]; decide)
  rw [List.length_replicate] at hsp
  refine FnC.introR (N0 := 0) (T := 58) (E := [(0, .ag (I .u8 key)), (1, .vs b.length (I .u8 b))]) Tryd.func49 rfl (by decide) mix rfl rfl rfl (by simp) rfl ⟨t_b, t_b, trivial⟩ (by simp) t_10 (fun F n0 X w ρ hC hro => ?_)
  refine wsr ?_
  refine wp rfl hC t_3j ?_
  refine wp rfl hC t_2d ?_
  refine WL_nil ?_
  refine W_seq ?_
  refine W_drawD hC ?_
  refine WD_cons (.plain rfl (ox_cutA hC (.tmp rfl) .no (.yes (n := 16) .cint rfl) idx_25 t_2 t_2 t_3n t_1b rfl rfl)) ?_
  refine WD_cons (.plain rfl (oc_arr hC (.tmp rfl) idx_23 t_4u (by decide) t_2 rfl rfl)) ?_
  refine WD_cons (.plain rfl (oc_load hC (v := .ag (I .u8 (key.take 16))) (.tmp rfl) t_3 shp_23 (by exact (unit_cut (by rw [List.drop_zero]) (by omega))) rfl rfl)) ?_
  refine WD_cons (.plain rfl (oc_call hC (.cons (.tmp rfl) .nil) (.cons1 (.free t_0) (.same t_0)) (pclamp_c (key.take 16) l1 b1) glob_nil t_0 t_8 rfl rfl)) ?_
  refine WD_cons (.plain rfl (oc_call hC (.cons (.tmp rfl) .nil) (.cons1 (.free t_0) (.same t_0)) (halves_c (clampL (key.take 16)) (length_clampL _) (B8_clampL b1)) glob_nil t_0 t_8 rfl rfl)) ?_
  rw [hRn]
  refine WD_cons (.plain rfl (ox_cutA hC (.tmp rfl) (.yes (n := 16) .cint rfl) .no idx_25 t_2 t_2 t_3n t_1b rfl rfl)) ?_
  refine WD_cons (.plain rfl (oc_arr hC (.tmp rfl) idx_23 t_4u (by decide) t_2 rfl rfl)) ?_
  refine WD_cons (.plain rfl (oc_load hC (v := .ag (I .u8 (key.drop 16))) (.tmp rfl) t_3 shp_23 (by exact (unit_cut (List.take_of_length_le (by show (key.drop 16).length ≤ 16; omega)) (by omega))) rfl rfl)) ?_
  refine WD_cons (.plain rfl (oc_call hC (.cons (.tmp rfl) .nil) (.cons1 (.free t_0) (.same t_0)) (halves_c (key.drop 16) l2 b2) glob_nil t_0 t_8 rfl rfl)) ?_
  rw [hSn]
  refine WD_cons (.plain rfl (ox_alloc hC zero_93 rfl rfl rfl)) ?_
  refine WD_cons (.plain rfl (ox_alloc hC zero_93 rfl rfl rfl)) ?_
  refine WD_cons (.plain rfl (ox_store (bk' := .blk 93 (I .u64 (w2 Rn))) hC (.tmp rfl) (.tmp rfl) rfl shp_93 t_h rfl t_s rfl t_f rfl)) ?_
  refine WD_cons (.plain rfl (ox_store (bk' := .blk 93 (I .u64 (w2 Sn))) hC (.tmp rfl) (.tmp rfl) rfl shp_93 t_h rfl t_s rfl t_f rfl)) ?_
  refine WD_nil t_x ?_
  refine wsr ?_
  refine wp rfl hC t_23 ?_
  refine WL_nil ?_
  refine W_seq ?_
  refine W_blk ?_
  refine W_loopW (fun (ζ : Nat × Nat × List Int) => ⟨5, [(1, .vs ζ.2.2.length (I .u8 ζ.2.2)), (4, .p 1 0), (5, .p 2 0), (6, .p 3 0), (7, .p 4 0)], [(1, .blk 23 (I .u8 (List.replicate 16 0))), (2, .blk 93 (I .u64 (w2 Rn))), (3, .blk 93 (I .u64 (w2 Sn))), (4, .blk 97 (I .u64 (w3 ζ.2.1)))]⟩) (fun ζ => TagR Rn (tagV Rn b) ζ.1 ζ.2.1 ζ.2.2 ∧ B8 ζ.2.2 ∧ ζ.2.2.length ≤ 1099511627776) (fun ζ => ζ.2.2.length) (((b.length + 15) / 16), 0, b) ⟨TagR.zero Rn b, bb, hl⟩ (weak (fun k => k) (.cons rfl t_30 t_0 (.cons rfl t_5 t_6 (.cons rfl t_5 t_6 (.cons rfl t_5 t_6 (.cons rfl t_5 t_6 .nil))))) (.cons rfl ren_blkI rfl t_0 (.cons rfl ren_blkI rfl t_0 (.cons rfl ren_blkI rfl t_0 (.cons rfl (renBlk (show w3 0 = List.replicate 3 0 from by decide)) rfl t_0 .nil)))) rfl rfl rfl) ?_
  rintro ⟨m, a, l⟩ hR
  replace hR : TagR Rn (tagV Rn b) m a l ∧ B8 l ∧ l.length ≤ 1099511627776 := hR
  first | show W _ _ _ ⟨5, [(1, .vs l.length (I .u8 l)), (4, .p 1 0), (5, .p 2 0), (6, .p 3 0), (7, .p 4 0)], [(1, .blk 23 (I .u8 (List.replicate 16 0))), (2, .blk 93 (I .u64 (w2 Rn))), (3, .blk 93 (I .u64 (w2 Sn))), (4, .blk 97 (I .u64 (w3 a)))]⟩ | skip
  refine W_seq ?_
  refine wsr ?_
  refine wp rfl hC t_1 ?_
  refine wp rfl hC t_32 ?_
  refine wp rfl hC t_11 ?_
  refine WL_nil ?_
  refine W_cond rfl (by decide) (fun hc => ?_) (fun hc => ?_)
  ·
    replace hc := gtr_t hc
    have hx8 := B8_xB hR.2.1
    have hxl := length_xB l
    have hch := chunk_lt hR.2.1
    have hlt := hR.1.lt
    refine W_skip ?_
    refine W_blk ?_
    refine wsr ?_
    refine wp rfl hC (ox_alloc hC zero_98 rfl rfl rfl) ?_
    refine WL_nil ?_
    refine wsr ?_
    refine wp rfl hC (ox_cutA hC (.tmp rfl) .no (.yes (n := 16) .cint rfl) idx_98 t_2 t_2 t_3n t_1b rfl rfl) ?_
    refine wp rfl hC t_1 ?_
    refine wp rfl hC (ox_copy (us := I .u8 (l.take (min l.length 16))) (cnt := (min l.length 16)) (bk' := .blk 98 (I .u8 (l.take 16 ++ List.replicate (24 - min 16 l.length) 0))) hC (.tmp rfl) (by first | exact .row rfl | exact .sl rfl) (.tmp rfl) t_a rfl Tryd.underlying22 size_5 rfl take_takeI (by rw [length_I, List.length_take]; omega) (by first | exact one_takeI | exact one_I | rfl) (by show 0 + min l.length 16 ≤ 24; omega) put_xB t_f rfl rfl) ?_
    refine wp rfl hC t_4 ?_
    refine WL_nil ?_
    refine wsr ?_
    refine wp rfl hC t_1 ?_
    refine wp rfl hC (ox_indexA hC (j := (min l.length 16)) (.tmp rfl) (.tmp rfl) idx_98 t_w (by omega) t_d t_34 rfl rfl) ?_
    refine wp rfl hC (ox_store (bk' := .blk 98 (I .u8 (xB l))) hC (.tmp rfl) .cint rfl shp_5 t_h t_18 (by simp [Blk.cs]; omega) ((put_blkI t_7).trans (by rw [set_xB])) t_f rfl) ?_
    refine WL_nil ?_
    refine wsr ?_
    refine wp rfl hC t_1 ?_
    refine wp rfl hC t_1 ?_
    refine wp rfl hC (ox_cutS (u' := .vs (l.drop 16).length (I .u8 (l.drop 16))) hC (.tmp rfl) (.yes (n := (min l.length 16)) (.tmp rfl) t_w) .no idx_22 t_3w t_2 t_2 (by rw [cut_vsI]; exact cut_16) rfl rfl) ?_
    refine wp rfl hC t_4 ?_
    refine WL_nil ?_
    refine W_drawD hC ?_
    refine WD_cons (.plain rfl (oc_load hC (v := .ag (I .u64 (w3 (a)))) (.tmp rfl) t_3 shp_97 t_1w rfl rfl)) ?_
    refine WD_cons (.plain rfl (ox_cutA hC (.tmp rfl) .no (.yes (n := 8) .cint rfl) idx_98 t_2 t_2 t_3n t_1b rfl rfl)) ?_
    refine WD_cons (.plain rfl (oc_call hC (.cons (.tmp rfl) .nil) (.cons1 t_31 (.same t_0)) (long_c (((xB l).drop 0).take 8) t_7 (fun x hx => hx8 x (List.mem_of_mem_drop (List.mem_of_mem_take hx)))) glob_nil t_0 t_8 rfl rfl)) ?_
    rw [half0 hx8]
    refine WD_cons (.plain rfl (ox_cutA hC (.tmp rfl) (.yes (n := 8) .cint rfl) (.yes (n := 16) .cint rfl) idx_98 t_2 t_2 t_3n t_1b rfl rfl)) ?_
    refine WD_cons (.plain rfl (oc_call hC (.cons (.tmp rfl) .nil) (.cons1 t_31 (.same t_0)) (long_c (((xB l).drop 8).take 8) t_7 (fun x hx => hx8 x (List.mem_of_mem_drop (List.mem_of_mem_take hx)))) glob_nil t_0 t_8 rfl rfl)) ?_
    rw [half1' hx8]
    refine WD_cons (.plain rfl (ox_cutA hC (.tmp rfl) (.yes (n := 16) .cint rfl) .no idx_98 t_2 t_2 t_3n t_1b rfl rfl)) ?_
    refine WD_cons (.plain rfl (oc_call hC (.cons (.tmp rfl) .nil) (.cons1 t_31 (.same t_0)) (long_c (((xB l).drop 16).take 8) t_7 (fun x hx => hx8 x (List.mem_of_mem_drop (List.mem_of_mem_take hx)))) glob_nil t_0 t_8 rfl rfl)) ?_
    rw [half2 hx8 hxl, lb_xB]
    refine WD_cons (.plain rfl t_55) ?_
    refine WD_cons (.plain rfl (oc_call hC (.cons (.tmp rfl) (.cons (.tmp rfl) .nil)) (.cons1 (.free t_0) (.cons1 (.free t_0) (.same t_0))) (padd_c a (lb (l.take 16 ++ [1])) (by omega)) glob_nil t_0 t_8 rfl rfl)) ?_
    refine WD_cons (.plain rfl (oc_load hC (v := .ag (I .u64 (w2 Rn))) (.tmp rfl) t_3 shp_93 t_1w rfl rfl)) ?_
    refine WD_cons (.plain rfl (oc_call hC (.cons (.tmp rfl) (.cons (.tmp rfl) .nil)) (.cons1 (.free t_0) (.cons1 (.free t_0) (.same t_0))) (times_c (a + lb (l.take 16 ++ [1])) Rn (by omega) (by assumption)) glob_nil t_0 t_8 rfl rfl)) ?_
    refine WD_cons (.plain rfl (ox_store (bk' := .blk 97 (I .u64 (w3 ((a + lb (l.take 16 ++ [1])) * Rn % 1361129467683753853853498429727072845819)))) hC (.tmp rfl) (.tmp rfl) rfl shp_97 t_h rfl t_s rfl t_f rfl)) ?_
    refine WD_nil t_x ?_
    exact ⟨((m - 1), ((a + lb (l.take 16 ++ [1])) * Rn % 1361129467683753853853498429727072845819), (l.drop 16)), ⟨hR.1.succ (by omega), fun x hx => hR.2.1 x (List.mem_of_mem_drop hx), by show (l.drop 16).length ≤ _; rw [List.length_drop]; omega⟩, (weak (fun k => k) (.cons rfl t_30 t_0 (.cons rfl t_5 t_6 (.cons rfl t_5 t_6 (.cons rfl t_5 t_6 (.cons rfl t_5 t_6 .nil))))) (.cons rfl ren_blkI rfl t_0 (.cons rfl ren_blkI rfl t_0 (.cons rfl ren_blkI rfl t_0 (.cons rfl ren_blkI rfl t_0 .nil)))) rfl rfl rfl), (by show (l.drop 16).length < l.length; rw [List.length_drop]; omega)⟩
  ·
    replace hc := gtr_f hc
    have hE := hR.1.end (by omega)
    subst hE
    refine W_exit ?_
    refine wsr ?_
    refine wp rfl hC (oc_load hC (v := .ag (I .u64 (w3 (tagV Rn b)))) (.tmp rfl) t_3 shp_97 t_1w rfl rfl) ?_
    refine wp rfl hC (ox_indexA hC (j := 0) (.tmp rfl) .cint idx_93 rfl t_2 t_d t_34 rfl rfl) ?_
    refine wp rfl hC (oc_load hC (v := .i .u64 ((Sn % 18446744073709551616 : Nat) : Int)) (.tmp rfl) t_3 shp_50 t_3r rfl rfl) ?_
    refine wp rfl hC (ox_indexA hC (j := 1) (.tmp rfl) .cint idx_93 rfl t_2 t_d t_34 rfl rfl) ?_
    refine wp rfl hC (oc_load hC (v := .i .u64 ((Sn / 18446744073709551616 : Nat) : Int)) (.tmp rfl) t_3 shp_50 t_3r rfl rfl) ?_
    refine wp rfl hC (ox_build (out' := I .u64 (w3 Sn)) hC (.cons (.tmp rfl) (.cons (.tmp rfl) .nil)) zero_97 bld_97 rfl (congrArg (I .u64) (w3_two hS).symm) rfl rfl) ?_
    refine wp rfl hC (oc_call hC (.cons (.tmp rfl) (.cons (.tmp rfl) .nil)) (.cons1 (.free t_0) (.cons1 (.free t_0) (.same t_0))) (padd_c (tagV Rn b) Sn (by omega)) glob_nil t_0 t_8 rfl rfl) ?_
    refine wp rfl hC (ox_store (bk' := .blk 97 (I .u64 (w3 (tagV Rn b + Sn)))) hC (.tmp rfl) (.tmp rfl) rfl shp_97 t_h rfl t_s rfl t_f rfl) ?_
    refine WL_nil ?_
    refine wsr ?_
    refine wp rfl hC t_2d ?_
    refine WL_nil ?_
    refine W_seq ?_
    refine W_drawD hC ?_
    refine WD_cons (.plain rfl t_73) ?_
    refine WD_cons (.plain rfl t_74) ?_
    refine WD_cons (.plain rfl (oc_load hC (v := .i .u64 (((tagV Rn b + Sn) % 18446744073709551616 : Nat) : Int)) (.tmp rfl) t_3 shp_50 t_3r rfl rfl)) ?_
    refine WD_cons (.plain rfl (oc_callG (τ := fun k => bif Nat.beq k 0 then 5 else k) (N' := 6) hC .func (.cons (.tmp rfl) (.cons (.tmp rfl) .nil)) (.own t_5 (.v1 (.free t_0) .end)) (pput_c 23 (List.replicate 16 0) 0 16 ((tagV Rn b + Sn) % 18446744073709551616) (by decide) t_j (by omega)) glob_nil (mr_cons t_g rfl mr_nil) (mr_cons t_g rfl mr_nil) rfl (rd_cons rfl rd_nil) rfl rfl rfl rfl t_4p rfl (dst_ok rfl rfl) (fun t => setE_cons _ _ _ _))) ?_
    refine WD_nil t_x ?_
    refine W_seq ?_
    refine W_drawD hC ?_
    refine WD_cons (.plain rfl (ox_cutA hC (.tmp rfl) (.yes (n := 8) .cint rfl) .no idx_23 t_2 t_2 t_3n t_1b rfl rfl)) ?_
    refine WD_cons (.plain rfl t_75) ?_
    refine WD_cons (.plain rfl (oc_load hC (v := .i .u64 (((tagV Rn b + Sn) / 18446744073709551616 % 18446744073709551616 : Nat) : Int)) (.tmp rfl) t_3 shp_50 t_3r rfl rfl)) ?_
    refine WD_cons (.plain rfl (oc_callG (τ := fun k => bif Nat.beq k 0 then 5 else k) (N' := 6) hC .func (.cons (.tmp rfl) (.cons (.tmp rfl) .nil)) (.own t_5 (.v1 (.free t_0) .end)) (pput_c 23 (spl (List.replicate 16 0) 0 (fixL ((tagV Rn b + Sn) % 18446744073709551616) 8)) 8 8 ((tagV Rn b + Sn) / 18446744073709551616 % 18446744073709551616) (by decide) t_j (by omega)) glob_nil (mr_cons t_g rfl mr_nil) (mr_cons t_g rfl mr_nil) rfl (rd_cons rfl rd_nil) rfl rfl rfl rfl t_4p rfl (dst_ok rfl rfl) (fun t => setE_cons _ _ _ _))) ?_
    rw [put16]
    refine WD_nil t_x ?_
    refine wsr ?_
    refine wp rfl hC (oc_load hC (v := .ag (I .u8 (fixL (tagV Rn b + Sn) 16))) (.tmp rfl) t_3 shp_23 (by exact (unit_all (length_fixL _ _))) rfl rfl) ?_
    refine wp rfl hC (ox_store (bk' := .blk 23 (I .u8 (fixL (tagV Rn b + Sn) 16))) hC (.tmp rfl) (.tmp rfl) rfl shp_23 t_h (by rw [cells_ag, length_I, length_fixL]) t_s (put_allI (by rw [length_fixL]; rfl)) t_f rfl) ?_
    refine WL_nil ?_
    refine W_ret ?_
    exact fin0 (.cons (.cell rfl (.p rfl) shp_23 (unit_all (length_fixL _ _))) .nil) rfl (inSL_I _)
end Go.Proofs.YtfngpppghlbanaaDoor
