/- Own work, printed by a program of this claim: walks through functions of the program. -/
import Derived.Test.YtfngpppghlbanaaDoorW7
import Derived.Test.YtfngpppghlbanaaDoorProg
import Derived.KernelRfl
set_option linter.unusedSimpArgs false
set_option linter.unusedVariables false
namespace Go.Proofs.YtfngpppghlbanaaDoor
open Go.Sk Go.RowKit
attribute [local simp] AV.inSL AV.inS inSL_I Blk.inS Blk.cs AV.novs AV.novsL novsL_I AV.ren AV.cells AV.one lk tuAV
theorem bld_33 : bldOK Tryd.prog 33 = true := by kernel_rfl
theorem eg_23 : Tryd.prog.eqGuardType Tryd.prog.depth 23 = false := by kernel_rfl
theorem fld_33_0 : fld Tryd.prog 33 0 = some (0, false, 1) := by kernel_rfl
theorem fld_33_1 : fld Tryd.prog 33 1 = some (1, true, 16) := by kernel_rfl
theorem fld_33_2 : fld Tryd.prog 33 2 = some (17, false, 1) := by kernel_rfl
theorem fld_33_3 : fld Tryd.prog 33 3 = some (18, false, 1) := by kernel_rfl
theorem fld_33_4 : fld Tryd.prog 33 4 = some (19, false, 1) := by kernel_rfl
theorem fld_40_0 : fld Tryd.prog 40 0 = some (0, false, 1) := by kernel_rfl
theorem fld_40_1 : fld Tryd.prog 40 1 = some (1, true, 16) := by kernel_rfl
theorem fld_40_2 : fld Tryd.prog 40 2 = some (17, false, 1) := by kernel_rfl
theorem fld_40_3 : fld Tryd.prog 40 3 = some (18, false, 1) := by kernel_rfl
theorem fld_40_4 : fld Tryd.prog 40 4 = some (19, false, 1) := by kernel_rfl
theorem kt_23 : Tryd.prog.keyTypeAt 8 23 = true := by kernel_rfl
theorem sg_23 : shp Tryd.prog 23 = some (true, Tryd.prog.cellsOf 23) := by kernel_rfl
theorem sh_23 : shOf Tryd.prog 8 23 = some (.nums 16 .u8) := by kernel_rfl
theorem shp_33 : shp Tryd.prog 33 = some (true, 20) := by kernel_rfl
theorem shp_40 : shp Tryd.prog 40 = some (true, 20) := by kernel_rfl
theorem zero_27 : zeroAV Tryd.prog 27 = some (I .u8 (List.replicate 12 0)) := by kernel_rfl
theorem zero_33 : zeroAV Tryd.prog 33 = some [.i .i64 0, .i .u8 0, .i .u8 0, .i .u8 0, .i .u8 0, .i .u8 0, .i .u8 0, .i .u8 0, .i .u8 0, .i .u8 0, .i .u8 0, .i .u8 0, .i .u8 0, .i .u8 0, .i .u8 0, .i .u8 0, .i .u8 0, .i .i64 0, .i .i64 0, .nils] := by kernel_rfl
set_option maxRecDepth 20000 in
set_option maxHeartbeats 4000000 in
theorem fix_c (nb n wd : Nat) (b : List Int) (width : Int) (hb : b.length = nb) (hl : nb ≤ 1099511627000) (hw : (width = wd ∧ wd ≤ 8) ∨ (width < 0 ∧ wd = 0)) : FnC Tryd.prog 21 [] [.vs nb (I .u8 b), .i .u64 n, .i .i64 width] [] [(0, .row 5 1 (nb + wd) (I .u8 (b ++ fixL n wd)))] (.row 0) := by
  refine FnC.introR (N0 := 0) (T := 26) (E := [(0, .vs nb (I .u8 b)), (1, .i .u64 n), (2, .i .i64 width)]) Tryd.func21 rfl (by decide) mix rfl rfl rfl (by simp) rfl ⟨t_b, t_b, t_b, trivial⟩ (by simp) (by
        intro S ha hr hw
        have s0 : S 0 := hw 0 t_17 t_5
        refine ⟨by first | exact inSL_I _ | simp [s0], fun k b hm => ?_⟩
        simp only [List.mem_cons, Prod.mk.injEq, List.not_mem_nil, or_false] at hm
        rcases hm with ⟨rfl, rfl⟩
        · exact ⟨s0, by first | exact inSL_I _ | simp [s0]⟩) (fun F n0 X w ρ hC hro => ?_)
  refine wsr ?_
  refine wp rfl hC t_v ?_
  refine WL_nil ?_
  refine wsr ?_
  refine wp rfl hC t_1 ?_
  refine wp rfl hC t_7q ?_
  refine wp rfl hC t_4 ?_
  refine WL_nil ?_
  refine W_seq ?_
  refine wsr ?_
  refine wp rfl hC t_1 ?_
  refine wp rfl hC t_37 ?_
  refine WL_nil ?_
  refine W_cond rfl (by decide) (fun hc => by cases hc) (fun _ => ?_)
  refine W_skip ?_
  refine W_seq ?_
  refine wsr ?_
  refine wp rfl hC t_1 ?_
  refine wp rfl hC (ox_max hC (.tmp rfl) .cint (r := (wd : Int)) (by omega) rfl rfl) ?_
  refine wp rfl hC t_1l ?_
  refine WL_nil ?_
  refine W_blk ?_
  refine W_loopW (fun (ζ : Nat) => ⟨1, [(1, .i .u64 ((n / 256 ^ ζ : Nat) : Int)), (7, .row 0), (14, .i .i64 wd), (15, .i .i64 ζ)], [(0, .row 5 1 (nb + ζ) (I .u8 (b ++ fixL n ζ)))]⟩) (fun ζ => ζ ≤ wd) (fun ζ => wd - ζ) (0) (Nat.zero_le _) (weak (fun k => k) (.cons rfl (congrArg (AV.i _) (by simp)) trivial (.cons rfl t_5 t_6 (.cons rfl t_2y trivial (.cons rfl rfl trivial .nil)))) (.cons rfl (renRow rfl (by unfold fixL; simp)) rfl t_0 .nil) rfl rfl rfl) ?_
  intro i hR
  replace hR : i ≤ wd := hR
  first | show W _ _ _ ⟨1, [(1, .i .u64 ((n / 256 ^ i : Nat) : Int)), (7, .row 0), (14, .i .i64 wd), (15, .i .i64 i)], [(0, .row 5 1 (nb + i) (I .u8 (b ++ fixL n i)))]⟩ | skip
  refine wsr ?_
  refine wp rfl hC t_1e ?_
  refine WL_nil ?_
  refine W_seq ?_
  refine W_cond rfl (by decide) (fun hc => ?_) (fun hc => ?_)
  ·
    replace hc := lss_t hc
    
    refine W_skip ?_
    refine W_seq ?_
    refine W_blk ?_
    refine wsr ?_
    refine wp rfl hC t_1 ?_
    refine wp rfl hC t_1 ?_
    refine wp rfl hC (oc_conv hC (.tmp rfl) rfl Tryd.underlying5 (r := ((n / 256 ^ i % 256 : Nat) : Int)) fix_byte rfl rfl) ?_
    refine wp rfl hC t_3v ?_
    refine wp rfl hC t_6o ?_
    refine wp rfl hC t_4 ?_
    refine WL_nil ?_
    refine W_region ?_
    refine wp rfl hC t_1 ?_
    refine wp rfl hC (oc_shift hC (.inr rfl) (.tmp rfl) .cint t_j (shr_n (n := 8) rfl (by decide)) rfl rfl) ?_
    refine wp rfl hC t_4 ?_
    refine WL_nil ?_
    refine W_region ?_
    refine wp rfl hC t_36 ?_
    refine wp rfl hC t_1 ?_
    refine WL_nil ?_
    exact ⟨(i + 1), (by omega), (weak (fun k => bif Nat.beq k 0 then 1 else k) (.cons rfl (congrArg (AV.i _) fix_next) trivial (.cons rfl t_5 t_6 (.cons rfl t_2y trivial (.cons rfl t_2y trivial .nil)))) (.cons rfl (renRow (by omega) (by rw [List.append_assoc, fixL_succ])) rfl t_0 .nil) rfl rfl rfl), (by omega)⟩
  ·
    replace hc := lss_f hc
    obtain rfl : i = wd := by omega
    refine W_exit ?_
    refine wsr ?_
    refine wp rfl hC t_1 ?_
    refine wp rfl hC t_4 ?_
    refine WL_nil ?_
    refine W_ret ?_
    exact fin1 (.cons (.tmp rfl) .nil) rfl rfl (inSL_I _)
set_option maxRecDepth 20000 in
set_option maxHeartbeats 4000000 in
theorem rfix_c (n wd : Nat) (width : Int) (hn64 : n < 18446744073709551616) (hw : (width = wd ∧ wd ≤ 8) ∨ ((width < 0 ∨ 8 < width) ∧ wd = 0)) : FnC Tryd.prog 23 [] [.i .u64 n, .i .i64 width] [] [(0, .row 5 1 wd (I .u8 (fixL n wd)))] (.row 0) := by
  refine FnC.introR (N0 := 0) (T := 25) (E := [(0, .i .u64 n), (1, .i .i64 width)]) Tryd.func23 rfl (by decide) mix rfl rfl rfl (by simp) rfl ⟨t_b, t_b, trivial⟩ (by simp) (by
        intro S ha hr hw
        have s0 : S 0 := hw 0 t_17 t_5
        refine ⟨by first | exact inSL_I _ | simp [s0], fun k b hm => ?_⟩
        simp only [List.mem_cons, Prod.mk.injEq, List.not_mem_nil, or_false] at hm
        rcases hm with ⟨rfl, rfl⟩
        · exact ⟨s0, by first | exact inSL_I _ | simp [s0]⟩) (fun F n0 X w ρ hC hro => ?_)
  refine wsr ?_
  refine wp rfl hC t_v ?_
  refine WL_nil ?_
  refine wsr ?_
  refine wp rfl hC t_v ?_
  refine WL_nil ?_
  refine W_seq ?_
  refine wsr ?_
  refine wp rfl hC t_k ?_
  refine WL_nil ?_
  refine W_blk ?_
  refine W_weak (weak_nil (t := 5) (e := 5) (sz := 1) rfl) ?_
  refine W_loopW (fun (ζ : Nat) => ⟨1, [(0, .i .u64 ((n / 256 ^ ζ : Nat) : Int)), (1, .i .i64 width), (5, .row 0), (6, .i .i64 ζ)], [(0, .row 5 1 ζ (I .u8 (fixL n ζ)))]⟩) (fun ζ => ζ ≤ wd) (fun ζ => wd - ζ) (0) (Nat.zero_le _) (weak (fun k => k) (.cons rfl (congrArg (AV.i _) (by simp)) trivial (.cons rfl t_2y trivial (.cons rfl t_5 t_6 (.cons rfl rfl trivial .nil)))) (.cons rfl (renRow (l' := []) rfl (by unfold fixL; rfl)) rfl t_0 .nil) rfl rfl rfl) ?_
  intro i hR
  replace hR : i ≤ wd := hR
  first | show W _ _ _ ⟨1, [(0, .i .u64 ((n / 256 ^ i : Nat) : Int)), (1, .i .i64 width), (5, .row 0), (6, .i .i64 i)], [(0, .row 5 1 i (I .u8 (fixL n i)))]⟩ | skip
  refine W_seq ?_
  refine W_seq ?_
  rcases (show ((i : Int) < width ∧ width ≤ 8 ∧ i < wd) ∨ ((i : Int) < width ∧ 8 < width ∧ i = wd) ∨ (width ≤ i ∧ i = wd) by omega) with h | h | h
  ·
    refine W_region ?_
    refine wp rfl hC t_1 ?_
    refine wp rfl hC t_1 ?_
    refine wp rfl hC t_3u ?_
    refine wp rfl hC t_1 ?_
    refine WL_cons hC.fn t_3d ?_
    refine WL_cons hC.fn t_6i ?_
    refine wp rfl hC t_2z ?_
    refine WL_nil ?_
    refine W_cond rfl (by decide) (fun _ => ?_) (fun hc => by cases hc)
    refine W_skip ?_
    refine W_seq ?_
    refine W_blk ?_
    refine wsr ?_
    refine wp rfl hC t_1 ?_
    refine wp rfl hC t_1 ?_
    refine wp rfl hC (oc_div hC (.inr rfl) (.tmp rfl) .cint t_j (r := ((n / 256 ^ i % 256 : Nat) : Int)) nrem_u rfl rfl) ?_
    refine wp rfl hC (oc_conv hC (.tmp rfl) rfl Tryd.underlying5 (r := ((n / 256 ^ i % 256 : Nat) : Int)) (u8_conv (by omega)) rfl rfl) ?_
    refine wp rfl hC t_3v ?_
    refine wp rfl hC t_6o ?_
    refine wp rfl hC t_4 ?_
    refine WL_nil ?_
    refine W_region ?_
    refine wp rfl hC t_1 ?_
    refine wp rfl hC (oc_div hC (.inl rfl) (.tmp rfl) .cint t_j (r := ((n / 256 ^ i : Nat) : Int) / 2 ^ 8) (fix_quo hn64) rfl rfl) ?_
    refine wp rfl hC t_4 ?_
    refine WL_nil ?_
    refine W_region ?_
    refine wp rfl hC t_1 ?_
    refine wp rfl hC t_36 ?_
    refine wp rfl hC t_4 ?_
    refine WL_nil ?_
    exact ⟨(i + 1), (by omega), (weak (fun k => bif Nat.beq k 0 then 1 else k) (.cons rfl (congrArg (AV.i _) (fix_next.trans rfl)) trivial (.cons rfl t_2y trivial (.cons rfl t_5 t_6 (.cons rfl t_2y trivial .nil)))) (.cons rfl (renRow rfl fixL_succ_s) rfl t_0 .nil) rfl rfl rfl), (by omega)⟩
  ·
    obtain ⟨_, _, rfl⟩ := h
    refine W_region ?_
    refine wp rfl hC t_1 ?_
    refine wp rfl hC t_1 ?_
    refine wp rfl hC t_3u ?_
    refine wp rfl hC t_1 ?_
    refine WL_cons hC.fn t_3d ?_
    refine WL_cons hC.fn t_6k ?_
    refine wp rfl hC t_2z ?_
    refine WL_nil ?_
    refine W_cond rfl (by decide) (fun hc => by cases hc) (fun _ => ?_)
    refine W_exit ?_
    refine wsr ?_
    refine wp rfl hC t_1 ?_
    refine wp rfl hC t_4 ?_
    refine WL_nil ?_
    refine W_ret ?_
    exact fin1 (.cons (.tmp rfl) .nil) rfl rfl (inSL_I _)
  ·
    obtain ⟨_, rfl⟩ := h
    refine W_region ?_
    refine wp rfl hC t_1 ?_
    refine wp rfl hC t_1 ?_
    refine wp rfl hC t_41 ?_
    refine wp rfl hC t_1 ?_
    refine WL_cons hC.fn (.no (s1 := ⟨_, (11, .tu []) :: _, _⟩) rfl rfl (by decide) rfl (by decide) (dst_ok rfl rfl) (fun t => setE_cons _ _ _ _) rfl rfl) ?_
    refine WL_cons hC.fn (.no (s1 := ⟨_, (12, .tu []) :: _, _⟩) rfl rfl (by decide) rfl (by decide) (dst_ok rfl rfl) (fun t => setE_cons _ _ _ _) rfl rfl) ?_
    refine wp rfl hC t_2z ?_
    refine WL_nil ?_
    refine W_cond rfl (by decide) (fun hc => by cases hc) (fun _ => ?_)
    refine W_exit ?_
    refine wsr ?_
    refine wp rfl hC t_1 ?_
    refine wp rfl hC t_4 ?_
    refine WL_nil ?_
    refine W_ret ?_
    exact fin1 (.cons (.tmp rfl) .nil) rfl rfl (inSL_I _)
set_option maxRecDepth 20000 in
set_option maxHeartbeats 4000000 in
theorem put1_c (m n : Nat) (a b : List Int) (ha : a.length = m) (hb : b.length = n) (hm : m ≤ 1000000000) (hn : n ≤ 1000000000) : FnC Tryd.prog 74 [] [.vs n (I .u8 b), .p 0 0] [(0, .blk 22 [.row 1]), (1, .row 5 1 m (I .u8 a))] [(0, .blk 22 [.row 2]), (2, .row 5 1 (m + n + zn n) (I .u8 (a ++ b ++ List.replicate (zn n) 0)))] (.tu []) := by
  have hz := zn_lt n
  have hzd : (16 - n % 16) % 16 = zn n := by unfold zn; rfl
  refine FnC.introR (N0 := 2) (T := 13) (E := [(0, .vs n (I .u8 b)), (1, .p 0 0)]) Tryd.func74 rfl (by decide) mix rfl rfl rfl (by simp) rfl ⟨t_b, t_b, trivial⟩ (by intro k b hm; simp only [List.mem_cons, Prod.mk.injEq, List.not_mem_nil, or_false] at hm; rcases hm with ⟨rfl, rfl⟩ | ⟨rfl, rfl⟩ <;> exact ⟨by decide, by first | exact inSL_I _ | simp⟩) (by
        intro S ha hr hw
        have s0 : S 0 := (hr 0 _ List.mem_cons_self).1
        have s2 : S 2 := hw 2 t_17 t_5
        refine ⟨by first | exact inSL_I _ | simp [s0, s2], fun k b hm => ?_⟩
        simp only [List.mem_cons, Prod.mk.injEq, List.not_mem_nil, or_false] at hm
        rcases hm with ⟨rfl, rfl⟩ | ⟨rfl, rfl⟩
        · exact ⟨s0, by first | exact inSL_I _ | simp [s0, s2]⟩
        · exact ⟨s2, by first | exact inSL_I _ | simp [s0, s2]⟩) (fun F n0 X w ρ hC hro => ?_)
  refine wsr ?_
  refine wp rfl hC t_5a ?_
  refine wp rfl hC t_1 ?_
  refine wp rfl hC (ox_append hC (.tmp rfl) (.tmp rfl) t_35 t_a t_r Tryd.underlying22 cells_5 bytes_5 zero_5 rfl (by decide) t_1n t_t t_16 (app_I hb) t_n (by omega) rfl rfl) ?_
  refine wp rfl hC (ox_store (bk' := .blk 22 [.row 2]) hC (.tmp rfl) (.tmp rfl) rfl shp_22 t_h t_18 t_s rfl t_f rfl) ?_
  refine WL_nil ?_
  refine W_region ?_
  refine wp rfl hC t_5a ?_
  refine wp rfl hC t_1 ?_
  refine wp rfl hC t_32 ?_
  refine wp rfl hC (oc_div hC (.inr rfl) (.tmp rfl) .cint t_j (r := ((n % 16 : Nat) : Int)) (nrem (y := 16)) rfl rfl) ?_
  refine wp rfl hC (oc_bin hC rfl .cint (.tmp rfl) (r := ((16 - n % 16 : Nat) : Int)) ((i64_sub (by omega)).trans (by omega)) rfl rfl) ?_
  refine wp rfl hC (oc_div hC (.inr rfl) (.tmp rfl) .cint t_j (r := ((zn n : Nat) : Int)) ((nrem (y := 16)).trans (by rw [hzd])) rfl rfl) ?_
  refine wp rfl hC (oc_appendZ hC (.tmp rfl) (.tmp rfl) t_35 Tryd.underlying22 Tryd.underlying3 cells_5 bytes_5 zero_5 rfl rfl t_n (by omega) rfl rfl) ?_
  refine wp rfl hC (ox_store (bk' := .blk 22 [.row 3]) hC (.tmp rfl) (.tmp rfl) rfl shp_22 t_h t_18 t_s rfl t_f rfl) ?_
  refine WL_nil ?_
  exact finK (fun k => bif Nat.beq k 2 then 3 else k) .nil rfl (wr_cons rfl rfl (wr_cons rfl ren_rowI wr_nil)) rfl rfl
set_option maxRecDepth 20000 in
set_option maxHeartbeats 4000000 in
theorem tagged_c (h s : List Int) (bh : B8 h) (bs : B8 s) (hh : h.length ≤ 1000000) (hs : s.length ≤ 1000000) : FnC Tryd.prog 50 [] [.vs h.length (I .u8 h), .vs s.length (I .u8 s)] [] [(0, .row 5 1 (mac h s).length (I .u8 (mac h s)))] (.row 0) := by
  have hz1 := zn_lt h.length
  have hz2 := zn_lt s.length
  have hml := length_mac h s
  have hmd : mac h s = ((h ++ List.replicate (zn h.length) 0) ++ s ++ List.replicate (zn s.length) 0) ++ fixL h.length 8 ++ fixL s.length 8 := by unfold mac; rfl
  refine FnC.introR (N0 := 0) (T := 24) (E := [(0, .vs h.length (I .u8 h)), (1, .vs s.length (I .u8 s))]) Tryd.func50 rfl (by decide) mix rfl rfl rfl (by simp) rfl ⟨t_b, t_b, trivial⟩ (by simp) (by
        intro S ha hr hw
        have s0 : S 0 := hw 0 t_17 t_5
        refine ⟨by first | exact inSL_I _ | simp [s0], fun k b hm => ?_⟩
        simp only [List.mem_cons, Prod.mk.injEq, List.not_mem_nil, or_false] at hm
        rcases hm with ⟨rfl, rfl⟩
        · exact ⟨s0, by first | exact inSL_I _ | simp [s0]⟩) (fun F n0 X w ρ hC hro => ?_)
  refine wsr ?_
  refine wp rfl hC t_v ?_
  refine WL_nil ?_
  refine wsr ?_
  refine wp rfl hC (ox_alloc hC zero_22 rfl rfl rfl) ?_
  refine WL_weak (weak_nilB (j := 0) (i := 0) (e := 5) (sz := 1) rfl rfl .here) ?_
  refine WL_nil ?_
  refine wsr ?_
  refine wp rfl hC (oc_func hC (.cons (.tmp rfl) .nil) rfl rfl) ?_
  refine wp rfl hC t_4 ?_
  refine WL_nil ?_
  refine wsr ?_
  refine wp rfl hC t_1 ?_
  refine wp rfl hC t_1 ?_
  refine wp rfl hC (oc_callG (τ := fun k => bif Nat.beq k 2 then 2 else bif Nat.beq k 1 then 1 else bif Nat.beq k 0 then 0 else k) (N' := 3) hC (.val rfl) (.cons (.tmp rfl) .nil) (.v1 t_31 (.own rfl .end)) (put1_c 0 h.length [] h rfl rfl (by decide) (by omega)) glob_nil (mr_cons rfl rfl (mr_cons ren_rowI rfl mr_nil)) (mr_cons rfl rfl (mr_cons ren_rowI rfl mr_nil)) rfl (rd_cons rfl (rd_cons rfl rd_nil)) rfl rfl rfl rfl (by first | exact .inl rfl | exact .inr ⟨by simp, (nv_cons t_1s (nv_cons t_1s nv_nil))⟩) rfl (dst_ok rfl rfl) (fun t => setE_cons _ _ _ _)) ?_
  rw [List.nil_append, Nat.zero_add h.length]
  refine WL_nil ?_
  refine wsr ?_
  refine wp rfl hC t_1 ?_
  refine wp rfl hC t_1 ?_
  refine wp rfl hC (oc_callG (τ := fun k => bif Nat.beq k 2 then 3 else bif Nat.beq k 1 then 2 else bif Nat.beq k 0 then 0 else k) (N' := 4) hC (.val rfl) (.cons (.tmp rfl) .nil) (.v1 t_31 (.own rfl .end)) (put1_c (h.length + zn h.length) s.length (h ++ List.replicate (zn h.length) 0) s (by simp) rfl (by omega) (by omega)) glob_nil (mr_cons rfl rfl (mr_cons ren_rowI rfl mr_nil)) (mr_cons rfl rfl (mr_cons ren_rowI rfl mr_nil)) rfl (rd_cons rfl (rd_cons rfl rd_nil)) rfl rfl rfl rfl (by first | exact .inl rfl | exact .inr ⟨by simp, (nv_cons t_1s (nv_cons t_1s nv_nil))⟩) rfl (dst_ok rfl rfl) (fun t => setE_cons _ _ _ _)) ?_
  refine WL_nil ?_
  refine wsr ?_
  refine wp rfl hC t_5a ?_
  refine wp rfl hC t_1 ?_
  refine wp rfl hC t_32 ?_
  refine wp rfl hC (oc_conv hC (.tmp rfl) rfl Tryd.underlying50 (r := ((h.length : Nat) : Int)) (u64_conv (by omega)) rfl rfl) ?_
  refine wp rfl hC (oc_callN hC (.cons (.tmp rfl) (.cons (.tmp rfl) (.cons .cint .nil))) (.cons1 t_31 (.cons1 (.free t_0) (.cons1 (.free t_0) (.same t_0)))) (fix_c (h.length + zn h.length + s.length + zn s.length) h.length 8 ((h ++ List.replicate (zn h.length) 0) ++ s ++ List.replicate (zn s.length) 0) 8 (by simp [Nat.add_assoc]) (by omega) (.inl ⟨rfl, by decide⟩)) glob_nil t_0 rfl t_q rfl rfl) ?_
  refine wp rfl hC (ox_store (bk' := .blk 22 [.row 4]) hC (.tmp rfl) (.tmp rfl) rfl shp_22 t_h t_18 t_s rfl t_f rfl) ?_
  refine WL_nil ?_
  refine wsr ?_
  refine wp rfl hC t_5a ?_
  refine wp rfl hC t_1 ?_
  refine wp rfl hC t_32 ?_
  refine wp rfl hC (oc_conv hC (.tmp rfl) rfl Tryd.underlying50 (r := ((s.length : Nat) : Int)) (u64_conv (by omega)) rfl rfl) ?_
  refine wp rfl hC (oc_callN hC (.cons (.tmp rfl) (.cons (.tmp rfl) (.cons .cint .nil))) (.cons1 t_31 (.cons1 (.free t_0) (.cons1 (.free t_0) (.same t_0)))) (fix_c (h.length + zn h.length + s.length + zn s.length + 8) s.length 8 (((h ++ List.replicate (zn h.length) 0) ++ s ++ List.replicate (zn s.length) 0) ++ fixL h.length 8) 8 (by simp [length_fixL, Nat.add_assoc]) (by omega) (.inl ⟨rfl, by decide⟩)) glob_nil t_0 rfl t_q rfl rfl) ?_
  rw [← hmd, show h.length + zn h.length + s.length + zn s.length + 8 + 8 = (mac h s).length by omega]
  refine wp rfl hC t_4 ?_
  refine WL_nil ?_
  refine W_ret ?_
  exact fin1 (.cons (.tmp rfl) .nil) rfl rfl (inSL_I _)
set_option maxRecDepth 20000 in
set_option maxHeartbeats 4000000 in
theorem atag_c (key nonce h s : List Int) (hk : key.length = 32) (hnc : nonce.length = 12) (hk8 : B8 key) (hc8 : B8 nonce) (bh : B8 h) (bs : B8 s) (hh : h.length ≤ 1000000) (hs : s.length ≤ 1000000) : FnC Tryd.prog 37 [] [.ag (I .u8 key), .ag (I .u8 nonce), .vs h.length (I .u8 h), .vs s.length (I .u8 s)] [] [] (.ag (I .u8 (atag key nonce h s))) := by
  have hlb := length_blk key 0 nonce
  have hb8 := B8_blk key 0 nonce
  have hlt := length_atag key nonce h s
  have had : tagL ((blkM key 0 nonce).take 32) (mac h s) = (atag key nonce h s) := by unfold atag; rfl
  have hml := length_mac h s
  have hz1 := zn_lt h.length
  have hz2 := zn_lt s.length
  refine FnC.introR (N0 := 0) (T := 20) (E := [(0, .ag (I .u8 key)), (1, .ag (I .u8 nonce)), (2, .vs h.length (I .u8 h)), (3, .vs s.length (I .u8 s))]) Tryd.func37 rfl (by decide) mix rfl rfl rfl (by simp) rfl ⟨t_b, t_b, t_b, t_b, trivial⟩ (by simp) t_10 (fun F n0 X w ρ hC hro => ?_)
  refine wsr ?_
  refine wp rfl hC t_3j ?_
  refine wp rfl hC t_3j ?_
  refine wp rfl hC t_2d ?_
  refine WL_nil ?_
  refine wsr ?_
  refine wp rfl hC t_4x ?_
  refine wp rfl hC t_4y ?_
  refine wp rfl hC (oc_call hC (.cons (.tmp rfl) (.cons .cint (.cons (.tmp rfl) .nil))) (.cons1 (.free t_0) (.cons1 (.free t_0) (.cons1 (.free t_0) (.same t_0)))) (block_c key nonce 0 hk hnc hk8 hc8 (by decide)) glob_nil t_0 t_8 rfl rfl) ?_
  refine wp rfl hC (ox_alloc hC zero_73 rfl rfl rfl) ?_
  refine wp rfl hC (ox_store (bk' := .blk 73 (I .u8 (blkM key 0 nonce))) hC (.tmp rfl) (.tmp rfl) rfl shp_73 t_h (by rw [cells_ag, length_I, hlb]) t_s (put_allI (by rw [hlb]; rfl)) t_f rfl) ?_
  refine WL_nil ?_
  refine W_seq ?_
  refine W_drawD hC ?_
  refine WD_cons (.plain rfl (ox_cutA hC (.tmp rfl) .no (.yes (n := 32) .cint rfl) idx_73 t_2 t_2 t_3n t_1b rfl rfl)) ?_
  refine WD_cons (.plain rfl (oc_arr hC (.tmp rfl) idx_25 t_4u (by decide) t_2 rfl rfl)) ?_
  refine WD_cons (.plain rfl (oc_load hC (v := .ag (I .u8 ((blkM key 0 nonce).take 32))) (.tmp rfl) t_3 shp_25 (by exact (unit_cut (by rw [List.drop_zero]) (by omega))) rfl rfl)) ?_
  refine WD_cons (.plain rfl t_1) ?_
  refine WD_cons (.plain rfl t_1) ?_
  refine WD_cons (.plain rfl (oc_callN hC (.cons (.tmp rfl) (.cons (.tmp rfl) .nil)) (.cons1 t_31 (.cons1 t_31 (.same t_0))) (tagged_c h s bh bs hh hs) glob_nil t_0 rfl t_q rfl rfl)) ?_
  refine WD_cons (.plain rfl (oc_call hC (.cons (.tmp rfl) (.cons (.tmp rfl) .nil)) (.cons1 (.free t_0) (.cons1 t_31 (.same t_0))) (ptag_c ((blkM key 0 nonce).take 32) (mac h s) (by rw [List.length_take]; omega) (fun x hx => hb8 x (List.mem_of_mem_take hx)) (B8_mac bh bs) (by omega)) glob_nil t_0 t_8 rfl rfl)) ?_
  rw [had]
  refine WD_cons (.plain rfl (ox_store (bk' := .blk 23 (I .u8 (atag key nonce h s))) hC (.tmp rfl) (.tmp rfl) rfl shp_23 t_h (by rw [cells_ag, length_I, hlt]) t_s (put_allI (by rw [hlt]; rfl)) t_f rfl)) ?_
  refine WD_nil t_x ?_
  refine W_ret ?_
  exact fin0 (.cons (.cell rfl (.p rfl) shp_23 (unit_all hlt)) .nil) rfl (inSL_I _)
set_option maxRecDepth 20000 in
set_option maxHeartbeats 4000000 in
theorem seal_c (key nonce h s : List Int) (hk : key.length = 32) (hnc : nonce.length = 12) (hk8 : B8 key) (hc8 : B8 nonce) (bh : B8 h) (bs : B8 s) (hh : h.length ≤ 1000000) (hs : s.length ≤ 1000000) : FnC Tryd.prog 25 [] [.ag (I .u8 key), .ag (I .u8 nonce), .vs h.length (I .u8 h), .vs s.length (I .u8 s)] [] [(0, .row 5 1 (sealM key nonce h s).length (I .u8 (sealM key nonce h s)))] (.row 0) := by
  have hlx : (xorM key 1 nonce s).length = s.length := length_xor
  have bx : B8 (xorM key 1 nonce s) := B8_xor
  have hlt := length_atag key nonce h (xorM key 1 nonce s)
  have hsd : (sealM key nonce h s) = (xorM key 1 nonce s) ++ atag key nonce h (xorM key 1 nonce s) := by unfold sealM; rfl
  have hsl := length_sealM key nonce h s
  refine FnC.introR (N0 := 0) (T := 28) (E := [(0, .ag (I .u8 key)), (1, .ag (I .u8 nonce)), (2, .vs h.length (I .u8 h)), (3, .vs s.length (I .u8 s))]) Tryd.func25 rfl (by decide) mix rfl rfl rfl (by simp) rfl ⟨t_b, t_b, t_b, t_b, trivial⟩ (by simp) (by
        intro S ha hr hw
        have s0 : S 0 := hw 0 t_17 t_5
        refine ⟨by first | exact inSL_I _ | simp [s0], fun k b hm => ?_⟩
        simp only [List.mem_cons, Prod.mk.injEq, List.not_mem_nil, or_false] at hm
        rcases hm with ⟨rfl, rfl⟩
        · exact ⟨s0, by first | exact inSL_I _ | simp [s0]⟩) (fun F n0 X w ρ hC hro => ?_)
  refine wsr ?_
  refine wp rfl hC t_3j ?_
  refine wp rfl hC t_3j ?_
  refine wp rfl hC t_v ?_
  refine WL_nil ?_
  refine wsr ?_
  refine wp rfl hC t_4x ?_
  refine wp rfl hC t_4y ?_
  refine wp rfl hC t_1 ?_
  refine wp rfl hC (oc_callN hC (.cons (.tmp rfl) (.cons .cint (.cons (.tmp rfl) (.cons (.tmp rfl) .nil)))) (.cons1 (.free t_0) (.cons1 (.free t_0) (.cons1 (.free t_0) (.cons1 t_31 (.same t_0))))) (xor_c s.length s key nonce 1 hk hnc hk8 hc8 (by decide) rfl bs (by omega)) glob_nil t_0 rfl t_q rfl rfl) ?_
  rw [show s.length = (xorM key 1 nonce s).length from hlx.symm]
  refine wp rfl hC t_4 ?_
  refine WL_nil ?_
  refine wsr ?_
  refine wp rfl hC t_4x ?_
  refine wp rfl hC t_4y ?_
  refine wp rfl hC t_1 ?_
  refine wp rfl hC t_1 ?_
  refine wp rfl hC (oc_call hC (.cons (.tmp rfl) (.cons (.tmp rfl) (.cons (.tmp rfl) (.cons (.tmp rfl) .nil)))) (.cons1 (.free t_0) (.cons1 (.free t_0) (.cons1 t_31 (.cons1 t_31 (.same t_0))))) (atag_c key nonce h (xorM key 1 nonce s) hk hnc hk8 hc8 bh bx hh (by omega)) glob_nil t_0 t_8 rfl rfl) ?_
  refine wp rfl hC t_2d ?_
  refine wp rfl hC (ox_store (bk' := .blk 23 (I .u8 (atag key nonce h (xorM key 1 nonce s)))) hC (.tmp rfl) (.tmp rfl) rfl shp_23 t_h (by rw [cells_ag, length_I, hlt]) t_s (put_allI (by rw [hlt]; rfl)) t_f rfl) ?_
  refine WL_nil ?_
  refine W_seq ?_
  refine W_drawD hC ?_
  refine WD_cons (.plain rfl t_1) ?_
  refine WD_cons (.plain rfl t_1) ?_
  refine WD_cons (.plain rfl (ox_len hC (.tmp rfl) t_a Tryd.underlying22 (r := (((xorM key 1 nonce s).length : Nat) : Int)) rfl rfl rfl)) ?_
  refine WD_cons (.plain rfl t_1) ?_
  refine WD_cons (.plain rfl (ox_len hC (.tmp rfl) t_a Tryd.underlying22 (r := (((xorM key 1 nonce s).length : Nat) : Int)) rfl rfl rfl)) ?_
  refine WD_cons (.plain rfl (oc_capRow hC (.tmp rfl) (.tmp rfl) (.tmp rfl) idx_22 t_35 rfl rfl)) ?_
  refine WD_cons (.plain rfl t_73) ?_
  refine WD_cons (.plain rfl (ox_append (n' := (sealM key nonce h s).length) (cs' := I .u8 (sealM key nonce h s)) hC (.tmp rfl) (.tmp rfl) t_35 t_a t_r Tryd.underlying22 cells_5 bytes_5 zero_5 rfl (by decide) (by simp [Blk.cs, hlt]) (by rw [List.drop_zero]; exact one_takeI) (by show _ + 16 = _; omega) (by rw [hsd, List.drop_zero]; exact app_I hlt) t_n (by omega) rfl rfl)) ?_
  refine WD_cons (.plain rfl t_4) ?_
  refine WD_nil t_x ?_
  refine W_ret ?_
  exact fin1 (.cons (.tmp rfl) .nil) rfl rfl (inSL_I _)
set_option maxRecDepth 20000 in
set_option maxHeartbeats 4000000 in
theorem openbad_c (key nonce h s : List Int) (hk : key.length = 32) (hnc : nonce.length = 12) (hk8 : B8 key) (hc8 : B8 nonce) (bh : B8 h) (bs : B8 s) (hh : h.length ≤ 1000000) (hs : s.length ≤ 1000000) (ns : Nat) (hls : s.length = ns) (n : Nat) (hl : s.length = n + 16) (hne : atag key nonce h (s.take n) ≠ s.drop n) : FnC Tryd.prog 26 [] [.ag (I .u8 key), .ag (I .u8 nonce), .vs h.length (I .u8 h), .vs ns (I .u8 s)] [] [] (.tu [.nils, .i .i64 8]) := by
  have hlt := length_atag key nonce h (s.take n)
  refine FnC.introR (N0 := 0) (T := 36) (E := [(0, .ag (I .u8 key)), (1, .ag (I .u8 nonce)), (2, .vs h.length (I .u8 h)), (3, .vs ns (I .u8 s))]) Tryd.func26 rfl (by decide) mix rfl rfl rfl (by simp) rfl ⟨t_b, t_b, t_b, t_b, trivial⟩ (by simp) t_10 (fun F n0 X w ρ hC hro => ?_)
  refine wsr ?_
  refine wp rfl hC t_3j ?_
  refine wp rfl hC t_3j ?_
  refine wp rfl hC t_v ?_
  refine wp rfl hC t_k ?_
  refine WL_nil ?_
  refine wsr ?_
  refine wp rfl hC t_1 ?_
  refine wp rfl hC t_32 ?_
  refine wp rfl hC (oc_bin hC rfl (.tmp rfl) .cint (r := ((n : Nat) : Int)) ((i64_sub (by omega)).trans (by omega)) rfl rfl) ?_
  refine wp rfl hC t_4 ?_
  refine WL_nil ?_
  refine W_seq ?_
  refine wsr ?_
  refine wp rfl hC t_1 ?_
  refine wp rfl hC t_37 ?_
  refine WL_nil ?_
  refine W_cond rfl (by decide) (fun hc => by cases hc) (fun _ => ?_)
  refine W_skip ?_
  refine W_seq ?_
  refine W_drawD hC ?_
  refine WD_cons (.plain rfl t_4x) ?_
  refine WD_cons (.plain rfl t_4y) ?_
  refine WD_cons (.plain rfl t_1) ?_
  refine WD_cons (.plain rfl t_1) ?_
  refine WD_cons (.plain rfl t_1) ?_
  refine WD_cons (.plain rfl t_7w) ?_
  refine WD_cons (.plain rfl t_8c) ?_
  refine WD_cons (.plain rfl t_2d) ?_
  refine WD_cons (.plain rfl t_64) ?_
  refine WD_nil t_x ?_
  refine W_seq ?_
  refine W_seq ?_
  refine W_drawD hC ?_
  refine WD_cons (.plain rfl t_73) ?_
  refine WD_cons (.plain rfl t_1) ?_
  refine WD_cons (.plain rfl t_1) ?_
  refine WD_cons (.plain rfl t_84) ?_
  refine WD_cons (.plain rfl t_6e) ?_
  rw [decide_eq_false hne]
  refine WD_cons (.plain rfl t_1m) ?_
  refine WD_nil t_x ?_
  refine W_cond rfl (by decide) (fun _ => ?_) (fun hc => by cases hc)
  refine wsr ?_
  refine wp rfl hC t_v ?_
  refine wp rfl hC t_k ?_
  refine WL_nil ?_
  refine W_ret ?_
  exact fin0 (.cons (.tmp rfl) (.cons (.tmp rfl) .nil)) rfl (by simp)
set_option maxRecDepth 20000 in
set_option maxHeartbeats 4000000 in
theorem open_c (key nonce h s : List Int) (hk : key.length = 32) (hnc : nonce.length = 12) (hk8 : B8 key) (hc8 : B8 nonce) (bh : B8 h) (bs : B8 s) (hh : h.length ≤ 1000000) (hs : s.length ≤ 1000000) (ns : Nat) (hls : s.length = ns) (n : Nat) (hl : s.length = n + 16) (he : atag key nonce h (s.take n) = s.drop n) : FnC Tryd.prog 26 [] [.ag (I .u8 key), .ag (I .u8 nonce), .vs h.length (I .u8 h), .vs ns (I .u8 s)] [] [(0, .row 5 1 (s.take n).length (I .u8 (xorM key 1 nonce (s.take n))))] (.tu [.row 0, .i .i64 0]) := by
  have hlt := length_atag key nonce h (s.take n)
  refine FnC.introR (N0 := 0) (T := 36) (E := [(0, .ag (I .u8 key)), (1, .ag (I .u8 nonce)), (2, .vs h.length (I .u8 h)), (3, .vs ns (I .u8 s))]) Tryd.func26 rfl (by decide) mix rfl rfl rfl (by simp) rfl ⟨t_b, t_b, t_b, t_b, trivial⟩ (by simp) (by
        intro S ha hr hw
        have s0 : S 0 := hw 0 t_17 t_5
        refine ⟨by first | exact inSL_I _ | simp [s0], fun k b hm => ?_⟩
        simp only [List.mem_cons, Prod.mk.injEq, List.not_mem_nil, or_false] at hm
        rcases hm with ⟨rfl, rfl⟩
        · exact ⟨s0, by first | exact inSL_I _ | simp [s0]⟩) (fun F n0 X w ρ hC hro => ?_)
  refine wsr ?_
  refine wp rfl hC t_3j ?_
  refine wp rfl hC t_3j ?_
  refine wp rfl hC t_v ?_
  refine wp rfl hC t_k ?_
  refine WL_nil ?_
  refine wsr ?_
  refine wp rfl hC t_1 ?_
  refine wp rfl hC t_32 ?_
  refine wp rfl hC (oc_bin hC rfl (.tmp rfl) .cint (r := ((n : Nat) : Int)) ((i64_sub (by omega)).trans (by omega)) rfl rfl) ?_
  refine wp rfl hC t_4 ?_
  refine WL_nil ?_
  refine W_seq ?_
  refine wsr ?_
  refine wp rfl hC t_1 ?_
  refine wp rfl hC t_37 ?_
  refine WL_nil ?_
  refine W_cond rfl (by decide) (fun hc => by cases hc) (fun _ => ?_)
  refine W_skip ?_
  refine W_seq ?_
  refine W_drawD hC ?_
  refine WD_cons (.plain rfl t_4x) ?_
  refine WD_cons (.plain rfl t_4y) ?_
  refine WD_cons (.plain rfl t_1) ?_
  refine WD_cons (.plain rfl t_1) ?_
  refine WD_cons (.plain rfl t_1) ?_
  refine WD_cons (.plain rfl t_7w) ?_
  refine WD_cons (.plain rfl t_8c) ?_
  refine WD_cons (.plain rfl t_2d) ?_
  refine WD_cons (.plain rfl t_64) ?_
  refine WD_nil t_x ?_
  refine W_seq ?_
  refine W_seq ?_
  refine W_drawD hC ?_
  refine WD_cons (.plain rfl t_73) ?_
  refine WD_cons (.plain rfl t_1) ?_
  refine WD_cons (.plain rfl t_1) ?_
  refine WD_cons (.plain rfl t_84) ?_
  refine WD_cons (.plain rfl t_6e) ?_
  rw [decide_eq_true he]
  refine WD_cons (.plain rfl t_1m) ?_
  refine WD_nil t_x ?_
  refine W_cond rfl (by decide) (fun hc => by cases hc) (fun _ => ?_)
  refine W_skip ?_
  refine W_seq ?_
  refine W_drawD hC ?_
  refine WD_cons (.plain rfl t_4x) ?_
  refine WD_cons (.plain rfl t_4y) ?_
  refine WD_cons (.plain rfl t_1) ?_
  refine WD_cons (.plain rfl t_1) ?_
  refine WD_cons (.plain rfl t_7w) ?_
  refine WD_cons (.plain rfl (oc_callN hC (.cons (.tmp rfl) (.cons .cint (.cons (.tmp rfl) (.cons (.tmp rfl) .nil)))) (.cons1 (.free t_0) (.cons1 (.free t_0) (.cons1 (.free t_0) (.cons1 t_31 (.same t_0))))) (xor_c (s.take n).length (s.take n) key nonce 1 hk hnc hk8 hc8 (by decide) rfl (fun x hx => bs x (List.mem_of_mem_take hx)) (by rw [List.length_take]; omega)) glob_nil t_0 rfl t_q rfl rfl)) ?_
  refine WD_cons (.plain rfl t_4) ?_
  refine WD_cons (.plain rfl t_k) ?_
  refine WD_nil t_x ?_
  refine W_ret ?_
  exact fin1 (.cons (.tmp rfl) (.cons (.tmp rfl) .nil)) rfl rfl (inSL_I _)
set_option maxRecDepth 20000 in
set_option maxHeartbeats 4000000 in
theorem rup_c (n : Nat) (b : List Int) (hb : b.length = n) (hl : n ≤ 1000000) : FnC Tryd.prog 40 [] [.vs n (I .u8 b)] [] [(0, .row 5 1 (n + zn n) (I .u8 (b ++ List.replicate (zn n) 0)))] (.row 0) := by
  have hz := zn_lt n
  have hzd : (16 - n % 16) % 16 = zn n := by unfold zn; rfl
  refine FnC.introR (N0 := 0) (T := 15) (E := [(0, .vs n (I .u8 b))]) Tryd.func40 rfl (by decide) mix rfl rfl rfl (by simp) rfl ⟨t_b, trivial⟩ (by simp) (by
        intro S ha hr hw
        have s0 : S 0 := hw 0 t_17 t_5
        refine ⟨by first | exact inSL_I _ | simp [s0], fun k b hm => ?_⟩
        simp only [List.mem_cons, Prod.mk.injEq, List.not_mem_nil, or_false] at hm
        rcases hm with ⟨rfl, rfl⟩
        · exact ⟨s0, by first | exact inSL_I _ | simp [s0]⟩) (fun F n0 X w ρ hC hro => ?_)
  refine wsr ?_
  refine wp rfl hC t_v ?_
  refine WL_nil ?_
  refine wsr ?_
  refine wp rfl hC t_4r ?_
  refine wp rfl hC t_1 ?_
  refine wp rfl hC t_87 ?_
  refine wp rfl hC t_4 ?_
  refine WL_nil ?_
  refine W_seq ?_
  refine W_blk ?_
  refine W_loopW (fun (ζ : Nat) => ⟨1, [(3, .row 0)], [(0, .row 5 1 (n + ζ) (I .u8 (b ++ List.replicate ζ 0)))]⟩) (fun ζ => ζ ≤ zn n) (fun ζ => zn n - ζ) (0) (Nat.zero_le _) (weak (fun k => bif Nat.beq k 0 then 1 else k) (.cons rfl t_5 t_6 .nil) (.cons rfl (renRow rfl (by simp)) rfl t_0 .nil) rfl rfl rfl) ?_
  intro j hR
  replace hR : j ≤ zn n := hR
  first | show W _ _ _ ⟨1, [(3, .row 0)], [(0, .row 5 1 (n + j) (I .u8 (b ++ List.replicate j 0)))]⟩ | skip
  refine W_seq ?_
  refine W_seq ?_
  rcases (show j < zn n ∨ j = zn n by omega) with h | h
  ·
    refine W_region ?_
    refine wp rfl hC t_1 ?_
    refine wp rfl hC t_32 ?_
    refine wp rfl hC (oc_div hC (.inr rfl) (.tmp rfl) .cint t_j (r := (((n + j) % 16 : Nat) : Int)) (nrem (y := 16)) rfl rfl) ?_
    refine wp rfl hC t_3b ?_
    refine WL_nil ?_
    refine W_cond rfl (by decide) (fun _ => ?_) (fun hc => by cases hc)
    refine W_skip ?_
    refine W_blk ?_
    refine W_region ?_
    refine wp rfl hC t_1 ?_
    refine wp rfl hC t_5c ?_
    refine wp rfl hC t_6o ?_
    refine wp rfl hC t_4 ?_
    refine WL_nil ?_
    exact ⟨(j + 1), (by omega), (weak (fun k => bif Nat.beq k 0 then 1 else k) (.cons rfl t_5 t_6 .nil) (.cons rfl (renRow (by omega) (by rw [List.replicate_succ', List.append_assoc])) rfl t_0 .nil) rfl rfl rfl), (by omega)⟩
  ·
    refine W_region ?_
    refine wp rfl hC t_1 ?_
    refine wp rfl hC t_32 ?_
    refine wp rfl hC (oc_div hC (.inr rfl) (.tmp rfl) .cint t_j (r := (((n + j) % 16 : Nat) : Int)) (nrem (y := 16)) rfl rfl) ?_
    refine wp rfl hC t_37 ?_
    refine WL_nil ?_
    refine W_cond rfl (by decide) (fun hc => by cases hc) (fun _ => ?_)
    refine W_exit ?_
    refine wsr ?_
    refine wp rfl hC t_1 ?_
    refine wp rfl hC t_4 ?_
    refine WL_nil ?_
    refine W_ret ?_
    rw [h]
    exact fin1 (.cons (.tmp rfl) .nil) rfl rfl (inSL_I _)
set_option maxRecDepth 20000 in
set_option maxHeartbeats 4000000 in
theorem rseal_c (key nonce h s : List Int) (hk : key.length = 32) (hnc : nonce.length = 12) (hk8 : B8 key) (hc8 : B8 nonce) (bh : B8 h) (bs : B8 s) (hh : h.length ≤ 1000000) (hs : s.length ≤ 1000000) : FnC Tryd.prog 28 [] [.vs 32 (I .u8 key), .vs 12 (I .u8 nonce), .vs h.length (I .u8 h), .vs s.length (I .u8 s)] [] [(0, .row 5 1 (sealM key nonce h s).length (I .u8 (sealM key nonce h s)))] (.row 0) := by
  have hlx : (xorM key 1 nonce s).length = s.length := length_xor
  have bx : B8 (xorM key 1 nonce s) := B8_xor
  have hlt := length_atag key nonce h (xorM key 1 nonce s)
  have hsd : (sealM key nonce h s) = (xorM key 1 nonce s) ++ atag key nonce h (xorM key 1 nonce s) := by unfold sealM; rfl
  have hsl := length_sealM key nonce h s
  have hlb := length_blk key 0 nonce
  have hb8 := B8_blk key 0 nonce
  have had : tagL ((blkM key 0 nonce).take 32) (mac h (xorM key 1 nonce s)) = (atag key nonce h (xorM key 1 nonce s)) := by unfold atag; rfl
  have hml := length_mac h (xorM key 1 nonce s)
  have hz1 := zn_lt h.length
  have hz2 := zn_lt s.length
  rw [hlx] at hml
  have hmd : mac h (xorM key 1 nonce s) = (h ++ List.replicate (zn h.length) 0) ++ ((xorM key 1 nonce s) ++ List.replicate (zn s.length) 0) ++ fixL h.length 8 ++ fixL s.length 8 := by unfold mac; rw [hlx]; simp only [List.append_assoc]
  have hf1 := length_fixL h.length 8
  have hf2 := length_fixL s.length 8
  refine FnC.introR (N0 := 0) (T := 40) (E := [(0, .vs 32 (I .u8 key)), (1, .vs 12 (I .u8 nonce)), (2, .vs h.length (I .u8 h)), (3, .vs s.length (I .u8 s))]) Tryd.func28 rfl (by decide) mix rfl rfl rfl (by simp) rfl ⟨t_b, t_b, t_b, t_b, trivial⟩ (by simp) (by
        intro S ha hr hw
        have s0 : S 0 := hw 0 t_17 t_5
        refine ⟨by first | exact inSL_I _ | simp [s0], fun k b hm => ?_⟩
        simp only [List.mem_cons, Prod.mk.injEq, List.not_mem_nil, or_false] at hm
        rcases hm with ⟨rfl, rfl⟩
        · exact ⟨s0, by first | exact inSL_I _ | simp [s0]⟩) (fun F n0 X w ρ hC hro => ?_)
  refine wsr ?_
  refine wp rfl hC t_v ?_
  refine WL_nil ?_
  refine wsr ?_
  refine wp rfl hC t_1 ?_
  refine wp rfl hC t_1 ?_
  refine wp rfl hC t_1 ?_
  refine wp rfl hC (oc_callN hC (.cons (.tmp rfl) (.cons .cint (.cons (.tmp rfl) (.cons (.tmp rfl) .nil)))) (.cons1 t_31 (.cons1 (.free t_0) (.cons1 t_31 (.cons1 t_31 (.same t_0))))) (rxorb_c s.length s key nonce 1 hk hnc hk8 hc8 (by decide) rfl bs (by omega)) glob_nil t_0 rfl t_q rfl rfl) ?_
  refine wp rfl hC t_4 ?_
  refine WL_nil ?_
  refine wsr ?_
  refine wp rfl hC t_1 ?_
  refine wp rfl hC (oc_callN hC (.cons (.tmp rfl) .nil) (.cons1 t_31 (.same t_0)) (rup_c h.length h rfl hh) glob_nil t_0 rfl t_q rfl rfl) ?_
  refine wp rfl hC t_1 ?_
  refine wp rfl hC (oc_callN hC (.cons (.tmp rfl) .nil) (.cons1 t_31 (.same t_0)) (rup_c s.length (xorM key 1 nonce s) hlx hs) glob_nil t_0 rfl t_q rfl rfl) ?_
  refine wp rfl hC (ox_append hC (.tmp rfl) (.tmp rfl) t_35 t_a t_r Tryd.underlying22 cells_5 bytes_5 zero_5 rfl (by decide) (by simp [hlx]) t_t t_16 (app_I (by simp [hlx])) t_n (by omega) rfl rfl) ?_
  refine wp rfl hC t_4 ?_
  refine WL_nil ?_
  refine wsr ?_
  refine wp rfl hC t_1 ?_
  refine wp rfl hC t_1 ?_
  refine wp rfl hC t_32 ?_
  refine wp rfl hC (oc_conv hC (.tmp rfl) rfl Tryd.underlying50 (r := ((h.length : Nat) : Int)) (u64_conv (by omega)) rfl rfl) ?_
  refine wp rfl hC (oc_callN hC (.cons (.tmp rfl) (.cons .cint .nil)) (.cons1 (.free t_0) (.cons1 (.free t_0) (.same t_0))) (rfix_c h.length 8 8 (by omega) (.inl ⟨rfl, by decide⟩)) glob_nil t_0 rfl t_q rfl rfl) ?_
  refine wp rfl hC (ox_append hC (.tmp rfl) (.tmp rfl) t_35 t_a t_r Tryd.underlying22 cells_5 bytes_5 zero_5 rfl (by decide) (by rw [length_I, hf1]; decide) t_t t_16 (app_I hf1) t_n (by omega) rfl rfl) ?_
  refine wp rfl hC t_4 ?_
  refine WL_nil ?_
  refine wsr ?_
  refine wp rfl hC t_1 ?_
  refine wp rfl hC t_1 ?_
  refine wp rfl hC t_32 ?_
  refine wp rfl hC (oc_conv hC (.tmp rfl) rfl Tryd.underlying50 (r := ((s.length : Nat) : Int)) (u64_conv (by omega)) rfl rfl) ?_
  refine wp rfl hC (oc_callN hC (.cons (.tmp rfl) (.cons .cint .nil)) (.cons1 (.free t_0) (.cons1 (.free t_0) (.same t_0))) (rfix_c s.length 8 8 (by omega) (.inl ⟨rfl, by decide⟩)) glob_nil t_0 rfl t_q rfl rfl) ?_
  refine wp rfl hC (ox_append (n' := (mac h (xorM key 1 nonce s)).length) (cs' := I .u8 (mac h (xorM key 1 nonce s))) hC (.tmp rfl) (.tmp rfl) t_35 t_a t_r Tryd.underlying22 cells_5 bytes_5 zero_5 rfl (by decide) (by rw [length_I, length_fixL]; decide) t_t (by omega) ((app_I (length_fixL _ 8)).trans (by rw [hmd])) t_n (by omega) rfl rfl) ?_
  refine wp rfl hC t_4 ?_
  refine WL_nil ?_
  refine wsr ?_
  refine wp rfl hC t_1 ?_
  refine wp rfl hC t_1 ?_
  refine wp rfl hC t_1 ?_
  refine wp rfl hC (oc_callN hC (.cons (.tmp rfl) (.cons .cint (.cons (.tmp rfl) .nil))) (.cons1 t_31 (.cons1 (.free t_0) (.cons1 t_31 (.same t_0)))) (rblock_c key nonce 0 hk hnc hk8 hc8 (by decide)) glob_nil t_0 rfl t_q rfl rfl) ?_
  refine wp rfl hC (ox_cutS (u' := .sl 8 0 32) hC (.tmp rfl) .no (.yes (n := 32) .cint t_w) idx_22 t_3w t_2 t_2 rfl rfl rfl) ?_
  refine wp rfl hC t_1 ?_
  refine wp rfl hC (oc_callN hC (.cons (.tmp rfl) (.cons (.tmp rfl) .nil)) (.cons1 (.sl1 rfl (by rw [List.drop_zero]; exact take_takeI) (inSL_I _)) (.cons1 (.row rfl rfl (inSL_I _)) (.same (by simp)))) (rtag_c ((blkM key 0 nonce).take 32) (mac h (xorM key 1 nonce s)) (by rw [List.length_take]; omega) (fun x hx => hb8 x (List.mem_of_mem_take hx)) (B8_mac bh bx) (by omega)) glob_nil t_0 rfl t_q rfl rfl) ?_
  rw [had]
  refine wp rfl hC (ox_append (n' := (sealM key nonce h s).length) (cs' := I .u8 (sealM key nonce h s)) hC (.tmp rfl) (.tmp rfl) t_35 t_a t_r Tryd.underlying22 cells_5 bytes_5 zero_5 rfl (by decide) (by rw [length_I, hlt]; decide) t_t (by omega) ((app_I hlt).trans (by rw [hsd])) t_n (by omega) rfl rfl) ?_
  refine wp rfl hC t_4 ?_
  refine WL_nil ?_
  refine W_ret ?_
  exact fin1 (.cons (.tmp rfl) .nil) rfl rfl (inSL_I _)
set_option maxRecDepth 20000 in
set_option maxHeartbeats 4000000 in
theorem put_c (nb nC : Nat) (b : List Int) (n : Int) (hb : b.length = nb) (hl : nb ≤ 1099511627000) (hn : (n = nC ∧ nC ≤ 1099511627775) ∨ ((n < 0 ∨ 1099511627775 < n) ∧ nC = 0)) : FnC Tryd.prog 31 [] [.vs nb (I .u8 b), .i .i64 n] [] [(0, .row 5 1 (nb + (putV nC).length) (I .u8 (b ++ putV nC)))] (.row 0) := by
  have hlp := length_putN 6 nC
  have hlv : (putV nC).length ≤ 7 := by unfold putV; exact hlp
  refine FnC.introR (N0 := 0) (T := 30) (E := [(0, .vs nb (I .u8 b)), (1, .i .i64 n)]) Tryd.func31 rfl (by decide) mix rfl rfl rfl (by simp) rfl ⟨t_b, t_b, trivial⟩ (by simp) (by
        intro S ha hr hw
        have s0 : S 0 := hw 0 t_17 t_5
        refine ⟨by first | exact inSL_I _ | simp [s0], fun k b hm => ?_⟩
        simp only [List.mem_cons, Prod.mk.injEq, List.not_mem_nil, or_false] at hm
        rcases hm with ⟨rfl, rfl⟩
        · exact ⟨s0, by first | exact inSL_I _ | simp [s0]⟩) (fun F n0 X w ρ hC hro => ?_)
  refine wsr ?_
  refine wp rfl hC t_v ?_
  refine WL_nil ?_
  refine W_seq ?_
  refine W_seq ?_
  rcases (show (n = nC ∧ nC ≤ 1099511627775) ∨ (n < 0 ∧ nC = 0) ∨ (0 ≤ n ∧ 1099511627775 < n ∧ nC = 0) by omega) with h | h | h
  ·
    refine W_region ?_
    refine wp rfl hC t_1 ?_
    refine wp rfl hC t_37 ?_
    refine wp rfl hC t_1 ?_
    refine WL_cons hC.fn t_3d ?_
    refine WL_cons hC.fn t_6k ?_
    refine wp rfl hC t_3f ?_
    refine WL_nil ?_
    refine W_cond rfl (by decide) (fun hc => by cases hc) (fun _ => ?_)
    refine W_skip ?_
    refine wsr ?_
    refine wp rfl hC t_1 ?_
    refine wp rfl hC t_7q ?_
    refine wp rfl hC t_4 ?_
    refine WL_nil ?_
    refine W_seq ?_
    refine W_blk ?_
    refine W_loopW (fun (ζ : Nat × Nat × List Int) => ⟨1, [(1, .i .i64 ζ.2.1), (5, .row 0)], [(0, .row 5 1 (nb + ζ.2.2.length) (I .u8 (b ++ ζ.2.2)))]⟩) (fun ζ => PutR nC ζ.2.2 ζ.1 ζ.2.1 ∧ ζ.2.1 ≤ 1099511627775 ∧ ζ.2.2.length ≤ 6 - ζ.1 ∧ ζ.1 ≤ 6) (fun ζ => ζ.2.1) (6, nC, []) ⟨PutR.zero (by omega), (by show nC ≤ _; omega), by simp, Nat.le_refl 6⟩ (weak (fun k => k) (.cons rfl (congrArg (AV.i _) (by show ((nC : Nat) : Int) = _; omega)) trivial (.cons rfl t_5 t_6 .nil)) (.cons rfl (renRow rfl (by simp)) rfl t_0 .nil) rfl rfl rfl) ?_
    rintro ⟨f, cur, em⟩ hR
    replace hR : PutR nC em f cur ∧ cur ≤ 1099511627775 ∧ em.length ≤ 6 - f ∧ f ≤ 6 := hR
    obtain ⟨hP, hcl, hel, hf6⟩ := hR
    first | show W _ _ _ ⟨1, [(1, .i .i64 cur), (5, .row 0)], [(0, .row 5 1 (nb + em.length) (I .u8 (b ++ em)))]⟩ | skip
    refine W_seq ?_
    refine wsr ?_
    refine wp rfl hC t_1 ?_
    refine wp rfl hC t_11 ?_
    refine WL_nil ?_
    refine W_cond rfl (by decide) (fun hc => ?_) (fun hc => ?_)
    ·
      replace hc := gtr_t hc
      obtain ⟨g, rfl, hS⟩ := hP.succ (by omega)
      refine W_skip ?_
      refine W_seq ?_
      refine W_blk ?_
      refine W_region ?_
      refine wp rfl hC t_1 ?_
      refine wp rfl hC t_1 ?_
      refine wp rfl hC t_2q ?_
      refine wp rfl hC t_2r ?_
      refine wp rfl hC t_47 ?_
      refine wp rfl hC t_3v ?_
      refine wp rfl hC t_6o ?_
      refine wp rfl hC t_4 ?_
      refine WL_nil ?_
      refine W_region ?_
      refine wp rfl hC t_1 ?_
      refine wp rfl hC t_5l ?_
      refine wp rfl hC t_4 ?_
      refine WL_nil ?_
      exact ⟨(g, cur / 128, em ++ [((128 + cur % 128 : Nat) : Int)]), ⟨hS, (by show cur / 128 ≤ _; omega), (by show (em ++ [_]).length ≤ 6 - g; simp; omega), (by show g ≤ 6; omega)⟩, (weak (fun k => bif Nat.beq k 0 then 1 else k) (.cons rfl (congrArg (AV.i _) (by show ((cur / 128 : Nat) : Int) = _; omega)) trivial (.cons rfl t_5 t_6 .nil)) (.cons rfl (renRow t_7 (by rw [List.append_assoc])) rfl t_0 .nil) rfl rfl rfl), (by show cur / 128 < cur; omega)⟩
    ·
      replace hc := gtr_f hc
      have hE := hP.end (by omega)
      refine W_exit ?_
      refine wsr ?_
      refine wp rfl hC t_1 ?_
      refine wp rfl hC t_1 ?_
      refine wp rfl hC t_47 ?_
      refine wp rfl hC t_3v ?_
      refine wp rfl hC t_7z ?_
      refine wp rfl hC t_4 ?_
      refine WL_nil ?_
      refine W_ret ?_
      exact fin1 (.cons (.tmp rfl) .nil) rfl rfl (inSL_I _)
  ·
    refine W_region ?_
    refine wp rfl hC t_1 ?_
    refine wp rfl hC t_3b ?_
    refine wp rfl hC t_1 ?_
    refine WL_cons hC.fn (.no (s1 := ⟨_, (9, .tu []) :: _, _⟩) rfl rfl (by decide) rfl (by decide) (dst_ok rfl rfl) (fun t => setE_cons _ _ _ _) rfl rfl) ?_
    refine WL_cons hC.fn (.no (s1 := ⟨_, (10, .tu []) :: _, _⟩) rfl rfl (by decide) rfl (by decide) (dst_ok rfl rfl) (fun t => setE_cons _ _ _ _) rfl rfl) ?_
    refine wp rfl hC t_3f ?_
    refine WL_nil ?_
    refine W_cond rfl (by decide) (fun _ => ?_) (fun hc => by cases hc)
    refine W_region ?_
    refine wp rfl hC t_k ?_
    refine WL_nil ?_
    refine wsr ?_
    refine wp rfl hC t_1 ?_
    refine wp rfl hC t_7q ?_
    refine wp rfl hC t_4 ?_
    refine WL_nil ?_
    refine W_seq ?_
    refine W_blk ?_
    refine W_loopW (fun (ζ : Nat × Nat × List Int) => ⟨1, [(1, .i .i64 ζ.2.1), (5, .row 0)], [(0, .row 5 1 (nb + ζ.2.2.length) (I .u8 (b ++ ζ.2.2)))]⟩) (fun ζ => PutR nC ζ.2.2 ζ.1 ζ.2.1 ∧ ζ.2.1 ≤ 1099511627775 ∧ ζ.2.2.length ≤ 6 - ζ.1 ∧ ζ.1 ≤ 6) (fun ζ => ζ.2.1) (6, nC, []) ⟨PutR.zero (by omega), (by show nC ≤ _; omega), by simp, Nat.le_refl 6⟩ (weak (fun k => k) (.cons rfl (congrArg (AV.i _) (by show ((nC : Nat) : Int) = _; omega)) trivial (.cons rfl t_5 t_6 .nil)) (.cons rfl (renRow rfl (by simp)) rfl t_0 .nil) rfl rfl rfl) ?_
    rintro ⟨f, cur, em⟩ hR
    replace hR : PutR nC em f cur ∧ cur ≤ 1099511627775 ∧ em.length ≤ 6 - f ∧ f ≤ 6 := hR
    obtain ⟨hP, hcl, hel, hf6⟩ := hR
    first | show W _ _ _ ⟨1, [(1, .i .i64 cur), (5, .row 0)], [(0, .row 5 1 (nb + em.length) (I .u8 (b ++ em)))]⟩ | skip
    refine W_seq ?_
    refine wsr ?_
    refine wp rfl hC t_1 ?_
    refine wp rfl hC t_11 ?_
    refine WL_nil ?_
    refine W_cond rfl (by decide) (fun hc => ?_) (fun hc => ?_)
    ·
      replace hc := gtr_t hc
      obtain ⟨g, rfl, hS⟩ := hP.succ (by omega)
      refine W_skip ?_
      refine W_seq ?_
      refine W_blk ?_
      refine W_region ?_
      refine wp rfl hC t_1 ?_
      refine wp rfl hC t_1 ?_
      refine wp rfl hC t_2q ?_
      refine wp rfl hC t_2r ?_
      refine wp rfl hC t_47 ?_
      refine wp rfl hC t_3v ?_
      refine wp rfl hC t_6o ?_
      refine wp rfl hC t_4 ?_
      refine WL_nil ?_
      refine W_region ?_
      refine wp rfl hC t_1 ?_
      refine wp rfl hC t_5l ?_
      refine wp rfl hC t_4 ?_
      refine WL_nil ?_
      exact ⟨(g, cur / 128, em ++ [((128 + cur % 128 : Nat) : Int)]), ⟨hS, (by show cur / 128 ≤ _; omega), (by show (em ++ [_]).length ≤ 6 - g; simp; omega), (by show g ≤ 6; omega)⟩, (weak (fun k => bif Nat.beq k 0 then 1 else k) (.cons rfl (congrArg (AV.i _) (by show ((cur / 128 : Nat) : Int) = _; omega)) trivial (.cons rfl t_5 t_6 .nil)) (.cons rfl (renRow t_7 (by rw [List.append_assoc])) rfl t_0 .nil) rfl rfl rfl), (by show cur / 128 < cur; omega)⟩
    ·
      replace hc := gtr_f hc
      have hE := hP.end (by omega)
      refine W_exit ?_
      refine wsr ?_
      refine wp rfl hC t_1 ?_
      refine wp rfl hC t_1 ?_
      refine wp rfl hC t_47 ?_
      refine wp rfl hC t_3v ?_
      refine wp rfl hC t_7z ?_
      refine wp rfl hC t_4 ?_
      refine WL_nil ?_
      refine W_ret ?_
      exact fin1 (.cons (.tmp rfl) .nil) rfl rfl (inSL_I _)
  ·
    refine W_region ?_
    refine wp rfl hC t_1 ?_
    refine wp rfl hC t_37 ?_
    refine wp rfl hC t_1 ?_
    refine WL_cons hC.fn t_3d ?_
    refine WL_cons hC.fn t_6i ?_
    refine wp rfl hC t_3f ?_
    refine WL_nil ?_
    refine W_cond rfl (by decide) (fun _ => ?_) (fun hc => by cases hc)
    refine W_region ?_
    refine wp rfl hC t_k ?_
    refine WL_nil ?_
    refine wsr ?_
    refine wp rfl hC t_1 ?_
    refine wp rfl hC t_7q ?_
    refine wp rfl hC t_4 ?_
    refine WL_nil ?_
    refine W_seq ?_
    refine W_blk ?_
    refine W_loopW (fun (ζ : Nat × Nat × List Int) => ⟨1, [(1, .i .i64 ζ.2.1), (5, .row 0)], [(0, .row 5 1 (nb + ζ.2.2.length) (I .u8 (b ++ ζ.2.2)))]⟩) (fun ζ => PutR nC ζ.2.2 ζ.1 ζ.2.1 ∧ ζ.2.1 ≤ 1099511627775 ∧ ζ.2.2.length ≤ 6 - ζ.1 ∧ ζ.1 ≤ 6) (fun ζ => ζ.2.1) (6, nC, []) ⟨PutR.zero (by omega), (by show nC ≤ _; omega), by simp, Nat.le_refl 6⟩ (weak (fun k => k) (.cons rfl (congrArg (AV.i _) (by show ((nC : Nat) : Int) = _; omega)) trivial (.cons rfl t_5 t_6 .nil)) (.cons rfl (renRow rfl (by simp)) rfl t_0 .nil) rfl rfl rfl) ?_
    rintro ⟨f, cur, em⟩ hR
    replace hR : PutR nC em f cur ∧ cur ≤ 1099511627775 ∧ em.length ≤ 6 - f ∧ f ≤ 6 := hR
    obtain ⟨hP, hcl, hel, hf6⟩ := hR
    first | show W _ _ _ ⟨1, [(1, .i .i64 cur), (5, .row 0)], [(0, .row 5 1 (nb + em.length) (I .u8 (b ++ em)))]⟩ | skip
    refine W_seq ?_
    refine wsr ?_
    refine wp rfl hC t_1 ?_
    refine wp rfl hC t_11 ?_
    refine WL_nil ?_
    refine W_cond rfl (by decide) (fun hc => ?_) (fun hc => ?_)
    ·
      replace hc := gtr_t hc
      obtain ⟨g, rfl, hS⟩ := hP.succ (by omega)
      refine W_skip ?_
      refine W_seq ?_
      refine W_blk ?_
      refine W_region ?_
      refine wp rfl hC t_1 ?_
      refine wp rfl hC t_1 ?_
      refine wp rfl hC t_2q ?_
      refine wp rfl hC t_2r ?_
      refine wp rfl hC t_47 ?_
      refine wp rfl hC t_3v ?_
      refine wp rfl hC t_6o ?_
      refine wp rfl hC t_4 ?_
      refine WL_nil ?_
      refine W_region ?_
      refine wp rfl hC t_1 ?_
      refine wp rfl hC t_5l ?_
      refine wp rfl hC t_4 ?_
      refine WL_nil ?_
      exact ⟨(g, cur / 128, em ++ [((128 + cur % 128 : Nat) : Int)]), ⟨hS, (by show cur / 128 ≤ _; omega), (by show (em ++ [_]).length ≤ 6 - g; simp; omega), (by show g ≤ 6; omega)⟩, (weak (fun k => bif Nat.beq k 0 then 1 else k) (.cons rfl (congrArg (AV.i _) (by show ((cur / 128 : Nat) : Int) = _; omega)) trivial (.cons rfl t_5 t_6 .nil)) (.cons rfl (renRow t_7 (by rw [List.append_assoc])) rfl t_0 .nil) rfl rfl rfl), (by show cur / 128 < cur; omega)⟩
    ·
      replace hc := gtr_f hc
      have hE := hP.end (by omega)
      refine W_exit ?_
      refine wsr ?_
      refine wp rfl hC t_1 ?_
      refine wp rfl hC t_1 ?_
      refine wp rfl hC t_47 ?_
      refine wp rfl hC t_3v ?_
      refine wp rfl hC t_7z ?_
      refine wp rfl hC t_4 ?_
      refine WL_nil ?_
      refine W_ret ?_
      exact fin1 (.cons (.tmp rfl) .nil) rfl rfl (inSL_I _)
set_option maxRecDepth 20000 in
set_option maxHeartbeats 4000000 in
theorem rputlt_c (f nC : Nat) (n : Int) (hn : (n = nC ∧ nC ≤ 1099511627775) ∨ ((n < 0 ∨ 1099511627775 < n) ∧ nC = 0)) (h7 : nC < 128) : FnC Tryd.prog 43 [] [.i .i64 n] [] [(0, .row 5 1 (putN f nC).length (I .u8 (putN f nC)))] (.row 0) := by
  have hp := putN_lt (f := f) h7
  have hp1 : (putN f nC).length = 1 := by rw [hp]; rfl
  refine FnC.introR (N0 := 0) (T := 23) (E := [(0, .i .i64 n)]) Tryd.func43 rfl (by decide) mix rfl rfl rfl (by simp) rfl ⟨t_b, trivial⟩ (by simp) (by
        intro S ha hr hw
        have s0 : S 0 := hw 0 t_17 t_5
        refine ⟨by first | exact inSL_I _ | simp [s0], fun k b hm => ?_⟩
        simp only [List.mem_cons, Prod.mk.injEq, List.not_mem_nil, or_false] at hm
        rcases hm with ⟨rfl, rfl⟩
        · exact ⟨s0, by first | exact inSL_I _ | simp [s0]⟩) (fun F n0 X w ρ hC hro => ?_)
  refine wsr ?_
  refine wp rfl hC t_v ?_
  refine WL_nil ?_
  refine W_seq ?_
  refine W_seq ?_
  rcases (show (n = nC ∧ nC ≤ 1099511627775) ∨ (n < 0 ∧ nC = 0) ∨ (0 ≤ n ∧ 1099511627775 < n ∧ nC = 0) by omega) with h | h | h
  ·
    refine W_region ?_
    refine wp rfl hC t_1 ?_
    refine wp rfl hC t_37 ?_
    refine wp rfl hC t_1 ?_
    refine WL_cons hC.fn t_3d ?_
    refine WL_cons hC.fn t_6k ?_
    refine wp rfl hC t_3f ?_
    refine WL_nil ?_
    refine W_cond rfl (by decide) (fun hc => by cases hc) (fun _ => ?_)
    refine W_skip ?_
    refine W_seq ?_
    refine wsr ?_
    refine wp rfl hC t_1 ?_
    refine wp rfl hC t_3b ?_
    refine WL_nil ?_
    refine W_cond rfl (by decide) (fun _ => ?_) (fun hc => by cases hc)
    refine wsr ?_
    refine wp rfl hC t_1 ?_
    refine wp rfl hC t_2s ?_
    refine wp rfl hC t_5o ?_
    refine wp rfl hC t_4 ?_
    refine WL_nil ?_
    refine W_ret ?_
    exact fin1 (.cons (.tmp rfl) .nil) rfl (by rw [hp1, hp]; rfl) (inSL_I _)
  ·
    refine W_region ?_
    refine wp rfl hC t_1 ?_
    refine wp rfl hC t_3b ?_
    refine wp rfl hC t_1 ?_
    refine WL_cons hC.fn (.no (s1 := ⟨_, (6, .tu []) :: _, _⟩) rfl rfl (by decide) rfl (by decide) (dst_ok rfl rfl) (fun t => setE_cons _ _ _ _) rfl rfl) ?_
    refine WL_cons hC.fn (.no (s1 := ⟨_, (7, .tu []) :: _, _⟩) rfl rfl (by decide) rfl (by decide) (dst_ok rfl rfl) (fun t => setE_cons _ _ _ _) rfl rfl) ?_
    refine wp rfl hC t_3f ?_
    refine WL_nil ?_
    refine W_cond rfl (by decide) (fun _ => ?_) (fun hc => by cases hc)
    refine W_region ?_
    refine wp rfl hC t_k ?_
    refine WL_nil ?_
    refine W_seq ?_
    refine wsr ?_
    refine wp rfl hC t_1 ?_
    refine wp rfl hC t_3b ?_
    refine WL_nil ?_
    refine W_cond rfl (by decide) (fun _ => ?_) (fun hc => by cases hc)
    refine wsr ?_
    refine wp rfl hC t_1 ?_
    refine wp rfl hC t_2s ?_
    refine wp rfl hC t_5o ?_
    refine wp rfl hC t_4 ?_
    refine WL_nil ?_
    refine W_ret ?_
    exact fin1 (.cons (.tmp rfl) .nil) rfl (by rw [hp1, hp]; rfl) (inSL_I _)
  ·
    refine W_region ?_
    refine wp rfl hC t_1 ?_
    refine wp rfl hC t_37 ?_
    refine wp rfl hC t_1 ?_
    refine WL_cons hC.fn t_3d ?_
    refine WL_cons hC.fn t_6i ?_
    refine wp rfl hC t_3f ?_
    refine WL_nil ?_
    refine W_cond rfl (by decide) (fun _ => ?_) (fun hc => by cases hc)
    refine W_region ?_
    refine wp rfl hC t_k ?_
    refine WL_nil ?_
    refine W_seq ?_
    refine wsr ?_
    refine wp rfl hC t_1 ?_
    refine wp rfl hC t_3b ?_
    refine WL_nil ?_
    refine W_cond rfl (by decide) (fun _ => ?_) (fun hc => by cases hc)
    refine wsr ?_
    refine wp rfl hC t_1 ?_
    refine wp rfl hC t_2s ?_
    refine wp rfl hC t_5o ?_
    refine wp rfl hC t_4 ?_
    refine WL_nil ?_
    refine W_ret ?_
    exact fin1 (.cons (.tmp rfl) .nil) rfl (by rw [hp1, hp]; rfl) (inSL_I _)
set_option maxRecDepth 20000 in
set_option maxHeartbeats 4000000 in
theorem rputge_c (f nC : Nat) (n : Int) (hn : n = nC) (hm : nC ≤ 1099511627775) (h7 : ¬ nC < 128) (ih : FnC Tryd.prog 43 [] [.i .i64 ((nC / 128 : Nat) : Int)] [] [(0, .row 5 1 (putN f (nC / 128)).length (I .u8 (putN f (nC / 128))))] (.row 0)) (hf : f ≤ 6) : FnC Tryd.prog 43 [] [.i .i64 n] [] [(0, .row 5 1 (putN (f + 1) nC).length (I .u8 (putN (f + 1) nC)))] (.row 0) := by
  have hp := putN_ge (f := f) h7
  have hpl : (putN (f + 1) nC).length = 1 + (putN f (nC / 128)).length := by rw [hp, List.length_cons]; omega
  have hll := length_putN f (nC / 128)
  refine FnC.introR (N0 := 0) (T := 23) (E := [(0, .i .i64 n)]) Tryd.func43 rfl (by decide) mix rfl rfl rfl (by simp) rfl ⟨t_b, trivial⟩ (by simp) (by
        intro S ha hr hw
        have s0 : S 0 := hw 0 t_17 t_5
        refine ⟨by first | exact inSL_I _ | simp [s0], fun k b hm => ?_⟩
        simp only [List.mem_cons, Prod.mk.injEq, List.not_mem_nil, or_false] at hm
        rcases hm with ⟨rfl, rfl⟩
        · exact ⟨s0, by first | exact inSL_I _ | simp [s0]⟩) (fun F n0 X w ρ hC hro => ?_)
  refine wsr ?_
  refine wp rfl hC t_v ?_
  refine WL_nil ?_
  refine W_seq ?_
  refine wsr ?_
  refine wp rfl hC t_1 ?_
  refine wp rfl hC t_37 ?_
  refine wp rfl hC t_1 ?_
  refine WL_cons hC.fn t_3d ?_
  refine WL_cons hC.fn t_6k ?_
  refine wp rfl hC t_3f ?_
  refine WL_nil ?_
  refine W_cond rfl (by decide) (fun hc => by cases hc) (fun _ => ?_)
  refine W_skip ?_
  refine W_seq ?_
  refine wsr ?_
  refine wp rfl hC t_1 ?_
  refine wp rfl hC t_37 ?_
  refine WL_nil ?_
  refine W_cond rfl (by decide) (fun hc => by cases hc) (fun _ => ?_)
  refine W_skip ?_
  refine wsr ?_
  refine wp rfl hC t_1 ?_
  refine wp rfl hC (oc_div hC (.inr rfl) (.tmp rfl) .cint t_j (r := ((nC % 128 : Nat) : Int)) (by rw [hn]; exact nrem (y := 128)) rfl rfl) ?_
  refine wp rfl hC (oc_bin hC rfl .cint (.tmp rfl) (r := ((128 + nC % 128 : Nat) : Int)) (nadd (x := 128) (by omega)) rfl rfl) ?_
  refine wp rfl hC t_47 ?_
  refine wp rfl hC (ox_litRI (k := .u8) (ws := [((128 + nC % 128 : Nat) : Int)]) hC (.cons (.tmp rfl) .nil) Tryd.underlying22 cells_5 zero_5 rfl (by decide) rfl rfl t_5 rfl rfl rfl) ?_
  refine wp rfl hC t_1 ?_
  refine wp rfl hC (oc_div hC (.inl rfl) (.tmp rfl) .cint t_j (r := ((nC / 128 : Nat) : Int)) (by rw [hn]; exact nquo (y := 128) (by omega) (by decide)) rfl rfl) ?_
  refine wp rfl hC (oc_callN hC (.cons (.tmp rfl) .nil) (.cons1 (.free t_0) (.same t_0)) (ih) glob_nil t_0 rfl t_q rfl rfl) ?_
  refine wp rfl hC (ox_append (n' := (putN (f + 1) nC).length) (cs' := I .u8 (putN (f + 1) nC)) hC (.tmp rfl) (.tmp rfl) t_35 t_a t_r Tryd.underlying22 cells_5 bytes_5 zero_5 rfl (by decide) t_1n t_t hpl.symm (by rw [hp]; exact app_I (us := [((128 + nC % 128 : Nat) : Int)]) rfl) t_n (by omega) rfl rfl) ?_
  refine wp rfl hC t_4 ?_
  refine WL_nil ?_
  refine W_ret ?_
  exact fin1 (.cons (.tmp rfl) .nil) rfl rfl (inSL_I _)
theorem rputN_c : ∀ (f nC : Nat) (n : Int), n = nC → nC ≤ 1099511627775 → nC < 128 ^ (f + 1) → f ≤ 6 → FnC Tryd.prog 43 [] [.i .i64 n] [] [(0, .row 5 1 (putN f nC).length (I .u8 (putN f nC)))] (.row 0)
  | 0, nC, n, hn, hm, hl, _ => rputlt_c 0 nC n (.inl ⟨hn, hm⟩) (by omega)
  | f + 1, nC, n, hn, hm, hl, hf => by
    by_cases h7 : nC < 128
    · exact rputlt_c (f + 1) nC n (.inl ⟨hn, hm⟩) h7
    · refine rputge_c f nC n hn hm h7 (rputN_c f (nC / 128) _ rfl (by omega) ?_ (by omega)) (by omega)
      rw [Nat.pow_succ] at hl
      exact Nat.div_lt_of_lt_mul (by rw [Nat.mul_comm]; exact hl)
theorem rput_c (nC : Nat) (n : Int) (hn : (n = nC ∧ nC ≤ 1099511627775) ∨ ((n < 0 ∨ 1099511627775 < n) ∧ nC = 0)) : FnC Tryd.prog 43 [] [.i .i64 n] [] [(0, .row 5 1 (putV nC).length (I .u8 (putV nC)))] (.row 0) := by
  have e : putV nC = putN 6 nC := by unfold putV; rfl
  rw [e]
  rcases hn with ⟨h1, h2⟩ | ⟨h1, h2⟩
  · exact rputN_c 6 nC n h1 h2 (by omega) (by omega)
  · exact rputlt_c 6 nC n (.inr ⟨h1, h2⟩) (by omega)
set_option maxRecDepth 20000 in
set_option maxHeartbeats 4000000 in
theorem within_t (a lo hi : Int) (h : lo ≤ a ∧ a ≤ hi) : FnC Tryd.prog 30 [] [.i .i64 a, .i .i64 lo, .i .i64 hi] [] [] (.b true) := by
  refine FnC.introR (N0 := 0) (T := 15) (E := [(0, .i .i64 a), (1, .i .i64 lo), (2, .i .i64 hi)]) Tryd.func30 rfl (by decide) mix rfl rfl rfl (by simp) rfl ⟨t_b, t_b, t_b, trivial⟩ (by simp) t_10 (fun F n0 X w ρ hC hro => ?_)
  refine wsr ?_
  refine wp rfl hC t_1d ?_
  refine WL_nil ?_
  refine wsr ?_
  refine wp rfl hC t_1 ?_
  refine wp rfl hC t_1 ?_
  refine wp rfl hC t_3u ?_
  refine wp rfl hC t_1 ?_
  refine WL_cons hC.fn t_3d ?_
  refine WL_cons hC.fn t_3d ?_
  refine WL_cons hC.fn (.yes rfl rfl (by decide) rfl t_3u) ?_
  refine wp rfl hC t_2z ?_
  refine wp rfl hC t_4 ?_
  refine WL_nil ?_
  refine W_ret ?_
  exact fin0 (.cons (.tmp rfl) .nil) rfl trivial
set_option maxRecDepth 20000 in
set_option maxHeartbeats 4000000 in
theorem within_f (a lo hi : Int) (h : a < lo ∨ (lo ≤ a ∧ hi < a)) : FnC Tryd.prog 30 [] [.i .i64 a, .i .i64 lo, .i .i64 hi] [] [] (.b false) := by
  refine FnC.introR (N0 := 0) (T := 15) (E := [(0, .i .i64 a), (1, .i .i64 lo), (2, .i .i64 hi)]) Tryd.func30 rfl (by decide) mix rfl rfl rfl (by simp) rfl ⟨t_b, t_b, t_b, trivial⟩ (by simp) t_10 (fun F n0 X w ρ hC hro => ?_)
  refine wsr ?_
  refine wp rfl hC t_1d ?_
  refine WL_nil ?_
  refine W_seq ?_
  rcases h with h | h
  ·
    refine W_region ?_
    refine wp rfl hC t_1 ?_
    refine wp rfl hC t_1 ?_
    refine wp rfl hC t_41 ?_
    refine wp rfl hC t_1 ?_
    refine WL_cons hC.fn (.no (s1 := ⟨_, (11, .tu []) :: _, _⟩) rfl rfl (by decide) rfl (by decide) (dst_ok rfl rfl) (fun t => setE_cons _ _ _ _) rfl rfl) ?_
    refine WL_cons hC.fn (.no (s1 := ⟨_, (12, .tu []) :: _, _⟩) rfl rfl (by decide) rfl (by decide) (dst_ok rfl rfl) (fun t => setE_cons _ _ _ _) rfl rfl) ?_
    refine WL_cons hC.fn (.no (s1 := ⟨_, (13, .tu []) :: _, _⟩) rfl rfl (by decide) rfl (by decide) (dst_ok rfl rfl) (fun t => setE_cons _ _ _ _) rfl rfl) ?_
    refine wp rfl hC t_2z ?_
    refine wp rfl hC t_4 ?_
    refine WL_nil ?_
    refine W_ret ?_
    exact fin0 (.cons (.tmp rfl) .nil) rfl trivial
  ·
    refine W_region ?_
    refine wp rfl hC t_1 ?_
    refine wp rfl hC t_1 ?_
    refine wp rfl hC t_3u ?_
    refine wp rfl hC t_1 ?_
    refine WL_cons hC.fn t_3d ?_
    refine WL_cons hC.fn t_3d ?_
    refine WL_cons hC.fn t_7c ?_
    refine wp rfl hC t_2z ?_
    refine wp rfl hC t_4 ?_
    refine WL_nil ?_
    refine W_ret ?_
    exact fin0 (.cons (.tmp rfl) .nil) rfl trivial
set_option maxRecDepth 20000 in
set_option maxHeartbeats 4000000 in
theorem right_t (k : Int) (id : List Int) (v n : Int) (b : List Int) (hid : id.length = 16) (bid : B8 id) (bb : B8 b) (hR : RightR k v n b.length) : FnC Tryd.prog 18 [] [.ag (recX k id v n (bodyV b))] [] [] (.b true) := by
  obtain ⟨g1, g2, g3, g4, g5, g6, g7⟩ := hR
  refine FnC.introR (N0 := 0) (T := 22) (E := [(0, .ag (recX k id v n (bodyV b)))]) Tryd.func18 rfl (by decide) mix rfl rfl rfl (by simp) rfl ⟨t_b, trivial⟩ (by simp) t_10 (fun F n0 X w ρ hC hro => ?_)
  refine wsr ?_
  refine wp rfl hC t_3s ?_
  refine wp rfl hC t_1d ?_
  refine WL_nil ?_
  refine wsr ?_
  refine wp rfl hC t_3g ?_
  refine wp rfl hC t_3c ?_
  refine wp rfl hC t_5h ?_
  refine wp rfl hC t_1 ?_
  refine WL_cons hC.fn t_6p ?_
  refine WL_cons hC.fn t_6n ?_
  refine WL_cons hC.fn (.yes rfl rfl (by decide) rfl t_5q) ?_
  refine wp rfl hC t_2z ?_
  refine wp rfl hC t_1 ?_
  refine WL_cons hC.fn t_6w ?_
  refine WL_cons hC.fn t_6r ?_
  refine WL_cons hC.fn (.yes rfl rfl (by decide) rfl t_69) ?_
  refine wp rfl hC t_2z ?_
  refine wp rfl hC t_1 ?_
  refine WL_cons hC.fn t_6f ?_
  refine WL_cons hC.fn t_6h ?_
  refine WL_cons hC.fn t_6j ?_
  refine WL_cons hC.fn t_6i ?_
  refine wp rfl hC t_2z ?_
  refine wp rfl hC t_4 ?_
  refine WL_nil ?_
  refine W_ret ?_
  exact fin0 (.cons (.tmp rfl) .nil) rfl trivial
set_option maxRecDepth 20000 in
set_option maxHeartbeats 4000000 in
theorem right_f (k : Int) (id : List Int) (v n : Int) (b : List Int) (hid : id.length = 16) (bid : B8 id) (bb : B8 b) (hR : ¬ RightR k v n b.length) : FnC Tryd.prog 18 [] [.ag (recX k id v n (bodyV b))] [] [] (.b false) := by
  have hc : (k < 1 ∨ (1 ≤ k ∧ 4 < k)) ∨ ((1 ≤ k ∧ k ≤ 4) ∧ (v < 0 ∨ (0 ≤ v ∧ 63 < v))) ∨ ((1 ≤ k ∧ k ≤ 4) ∧ (0 ≤ v ∧ v ≤ 63) ∧ (n < 0 ∨ (0 ≤ n ∧ 1099511627775 < n))) ∨ ((1 ≤ k ∧ k ≤ 4) ∧ (0 ≤ v ∧ v ≤ 63) ∧ (0 ≤ n ∧ n ≤ 1099511627775) ∧ 262144 < b.length) := by unfold RightR at hR; omega
  refine FnC.introR (N0 := 0) (T := 22) (E := [(0, .ag (recX k id v n (bodyV b)))]) Tryd.func18 rfl (by decide) mix rfl rfl rfl (by simp) rfl ⟨t_b, trivial⟩ (by simp) t_10 (fun F n0 X w ρ hC hro => ?_)
  refine wsr ?_
  refine wp rfl hC t_3s ?_
  refine wp rfl hC t_1d ?_
  refine WL_nil ?_
  refine W_seq ?_
  rcases hc with h | h | h | h
  ·
    refine W_region ?_
    refine wp rfl hC t_3g ?_
    refine wp rfl hC t_3c ?_
    refine wp rfl hC (oc_call hC (.cons (.tmp rfl) (.cons .cint (.cons .cint .nil))) (.cons1 (.free t_0) (.cons1 (.free t_0) (.cons1 (.free t_0) (.same t_0)))) (within_f k 1 4 (by omega)) glob_nil t_0 t_8 rfl rfl) ?_
    refine wp rfl hC t_1 ?_
    refine WL_cons hC.fn (.no (s1 := ⟨_, (7, .tu []) :: _, _⟩) rfl rfl (by decide) rfl (by decide) (dst_ok rfl rfl) (fun t => setE_cons _ _ _ _) rfl rfl) ?_
    refine WL_cons hC.fn (.no (s1 := ⟨_, (8, .tu []) :: _, _⟩) rfl rfl (by decide) rfl (by decide) (dst_ok rfl rfl) (fun t => setE_cons _ _ _ _) rfl rfl) ?_
    refine WL_cons hC.fn (.no (s1 := ⟨_, (9, .tu []) :: _, _⟩) rfl rfl (by decide) rfl (by decide) (dst_ok rfl rfl) (fun t => setE_cons _ _ _ _) rfl rfl) ?_
    refine wp rfl hC t_2z ?_
    refine wp rfl hC t_1 ?_
    refine WL_cons hC.fn (.no (s1 := ⟨_, (12, .tu []) :: _, _⟩) rfl rfl (by decide) rfl (by decide) (dst_ok rfl rfl) (fun t => setE_cons _ _ _ _) rfl rfl) ?_
    refine WL_cons hC.fn (.no (s1 := ⟨_, (13, .tu []) :: _, _⟩) rfl rfl (by decide) rfl (by decide) (dst_ok rfl rfl) (fun t => setE_cons _ _ _ _) rfl rfl) ?_
    refine WL_cons hC.fn (.no (s1 := ⟨_, (14, .tu []) :: _, _⟩) rfl rfl (by decide) rfl (by decide) (dst_ok rfl rfl) (fun t => setE_cons _ _ _ _) rfl rfl) ?_
    refine wp rfl hC t_2z ?_
    refine wp rfl hC t_1 ?_
    refine WL_cons hC.fn (.no (s1 := ⟨_, (17, .tu []) :: _, _⟩) rfl rfl (by decide) rfl (by decide) (dst_ok rfl rfl) (fun t => setE_cons _ _ _ _) rfl rfl) ?_
    refine WL_cons hC.fn (.no (s1 := ⟨_, (18, .tu []) :: _, _⟩) rfl rfl (by decide) rfl (by decide) (dst_ok rfl rfl) (fun t => setE_cons _ _ _ _) rfl rfl) ?_
    refine WL_cons hC.fn (.no (s1 := ⟨_, (19, .tu []) :: _, _⟩) rfl rfl (by decide) rfl (by decide) (dst_ok rfl rfl) (fun t => setE_cons _ _ _ _) rfl rfl) ?_
    refine WL_cons hC.fn (.no (s1 := ⟨_, (20, .tu []) :: _, _⟩) rfl rfl (by decide) rfl (by decide) (dst_ok rfl rfl) (fun t => setE_cons _ _ _ _) rfl rfl) ?_
    refine wp rfl hC t_2z ?_
    refine wp rfl hC t_4 ?_
    refine WL_nil ?_
    refine W_ret ?_
    exact fin0 (.cons (.tmp rfl) .nil) rfl trivial
  ·
    refine W_region ?_
    refine wp rfl hC t_3g ?_
    refine wp rfl hC t_3c ?_
    refine wp rfl hC t_5h ?_
    refine wp rfl hC t_1 ?_
    refine WL_cons hC.fn t_6p ?_
    refine WL_cons hC.fn t_6n ?_
    refine WL_cons hC.fn (.yes rfl rfl (by decide) rfl (oc_call hC (.cons (.tmp rfl) (.cons .cint (.cons .cint .nil))) (.cons1 (.free t_0) (.cons1 (.free t_0) (.cons1 (.free t_0) (.same t_0)))) (within_f v 0 63 (by omega)) glob_nil t_0 t_8 rfl rfl)) ?_
    refine wp rfl hC t_2z ?_
    refine wp rfl hC t_1 ?_
    refine WL_cons hC.fn (.no (s1 := ⟨_, (12, .tu []) :: _, _⟩) rfl rfl (by decide) rfl (by decide) (dst_ok rfl rfl) (fun t => setE_cons _ _ _ _) rfl rfl) ?_
    refine WL_cons hC.fn (.no (s1 := ⟨_, (13, .tu []) :: _, _⟩) rfl rfl (by decide) rfl (by decide) (dst_ok rfl rfl) (fun t => setE_cons _ _ _ _) rfl rfl) ?_
    refine WL_cons hC.fn (.no (s1 := ⟨_, (14, .tu []) :: _, _⟩) rfl rfl (by decide) rfl (by decide) (dst_ok rfl rfl) (fun t => setE_cons _ _ _ _) rfl rfl) ?_
    refine wp rfl hC t_2z ?_
    refine wp rfl hC t_1 ?_
    refine WL_cons hC.fn (.no (s1 := ⟨_, (17, .tu []) :: _, _⟩) rfl rfl (by decide) rfl (by decide) (dst_ok rfl rfl) (fun t => setE_cons _ _ _ _) rfl rfl) ?_
    refine WL_cons hC.fn (.no (s1 := ⟨_, (18, .tu []) :: _, _⟩) rfl rfl (by decide) rfl (by decide) (dst_ok rfl rfl) (fun t => setE_cons _ _ _ _) rfl rfl) ?_
    refine WL_cons hC.fn (.no (s1 := ⟨_, (19, .tu []) :: _, _⟩) rfl rfl (by decide) rfl (by decide) (dst_ok rfl rfl) (fun t => setE_cons _ _ _ _) rfl rfl) ?_
    refine WL_cons hC.fn (.no (s1 := ⟨_, (20, .tu []) :: _, _⟩) rfl rfl (by decide) rfl (by decide) (dst_ok rfl rfl) (fun t => setE_cons _ _ _ _) rfl rfl) ?_
    refine wp rfl hC t_2z ?_
    refine wp rfl hC t_4 ?_
    refine WL_nil ?_
    refine W_ret ?_
    exact fin0 (.cons (.tmp rfl) .nil) rfl trivial
  ·
    refine W_region ?_
    refine wp rfl hC t_3g ?_
    refine wp rfl hC t_3c ?_
    refine wp rfl hC t_5h ?_
    refine wp rfl hC t_1 ?_
    refine WL_cons hC.fn t_6p ?_
    refine WL_cons hC.fn t_6n ?_
    refine WL_cons hC.fn (.yes rfl rfl (by decide) rfl t_5q) ?_
    refine wp rfl hC t_2z ?_
    refine wp rfl hC t_1 ?_
    refine WL_cons hC.fn t_6w ?_
    refine WL_cons hC.fn t_6r ?_
    refine WL_cons hC.fn (.yes rfl rfl (by decide) rfl (oc_call hC (.cons (.tmp rfl) (.cons .cint (.cons .cint .nil))) (.cons1 (.free t_0) (.cons1 (.free t_0) (.cons1 (.free t_0) (.same t_0)))) (within_f n 0 1099511627775 (by omega)) glob_nil t_0 t_8 rfl rfl)) ?_
    refine wp rfl hC t_2z ?_
    refine wp rfl hC t_1 ?_
    refine WL_cons hC.fn (.no (s1 := ⟨_, (17, .tu []) :: _, _⟩) rfl rfl (by decide) rfl (by decide) (dst_ok rfl rfl) (fun t => setE_cons _ _ _ _) rfl rfl) ?_
    refine WL_cons hC.fn (.no (s1 := ⟨_, (18, .tu []) :: _, _⟩) rfl rfl (by decide) rfl (by decide) (dst_ok rfl rfl) (fun t => setE_cons _ _ _ _) rfl rfl) ?_
    refine WL_cons hC.fn (.no (s1 := ⟨_, (19, .tu []) :: _, _⟩) rfl rfl (by decide) rfl (by decide) (dst_ok rfl rfl) (fun t => setE_cons _ _ _ _) rfl rfl) ?_
    refine WL_cons hC.fn (.no (s1 := ⟨_, (20, .tu []) :: _, _⟩) rfl rfl (by decide) rfl (by decide) (dst_ok rfl rfl) (fun t => setE_cons _ _ _ _) rfl rfl) ?_
    refine wp rfl hC t_2z ?_
    refine wp rfl hC t_4 ?_
    refine WL_nil ?_
    refine W_ret ?_
    exact fin0 (.cons (.tmp rfl) .nil) rfl trivial
  ·
    refine W_region ?_
    refine wp rfl hC t_3g ?_
    refine wp rfl hC t_3c ?_
    refine wp rfl hC t_5h ?_
    refine wp rfl hC t_1 ?_
    refine WL_cons hC.fn t_6p ?_
    refine WL_cons hC.fn t_6n ?_
    refine WL_cons hC.fn (.yes rfl rfl (by decide) rfl t_5q) ?_
    refine wp rfl hC t_2z ?_
    refine wp rfl hC t_1 ?_
    refine WL_cons hC.fn t_6w ?_
    refine WL_cons hC.fn t_6r ?_
    refine WL_cons hC.fn (.yes rfl rfl (by decide) rfl t_69) ?_
    refine wp rfl hC t_2z ?_
    refine wp rfl hC t_1 ?_
    refine WL_cons hC.fn t_6f ?_
    refine WL_cons hC.fn t_6h ?_
    refine WL_cons hC.fn t_6j ?_
    refine WL_cons hC.fn t_6k ?_
    refine wp rfl hC t_2z ?_
    refine wp rfl hC t_4 ?_
    refine WL_nil ?_
    refine W_ret ?_
    exact fin0 (.cons (.tmp rfl) .nil) rfl trivial
set_option maxRecDepth 20000 in
set_option maxHeartbeats 4000000 in
theorem equal_c (na nb : Nat) (a b : List Int) (ha : a.length = na) (hb : b.length = nb) (hl : na ≤ 1099511627776) : FnC Tryd.prog 27 [] [.vs na (I .u8 a), .vs nb (I .u8 b)] [] [] (.b (decide (a = b))) := by
  refine FnC.introR (N0 := 0) (T := 26) (E := [(0, .vs na (I .u8 a)), (1, .vs nb (I .u8 b))]) Tryd.func27 rfl (by decide) mix rfl rfl rfl (by simp) rfl ⟨t_b, t_b, trivial⟩ (by simp) t_10 (fun F n0 X w ρ hC hro => ?_)
  refine wsr ?_
  refine wp rfl hC t_1d ?_
  refine WL_nil ?_
  refine W_seq ?_
  refine W_seq ?_
  rcases Nat.lt_trichotomy na nb with h | h | h
  ·
    refine W_region ?_
    refine wp rfl hC t_1 ?_
    refine wp rfl hC t_32 ?_
    refine wp rfl hC t_1 ?_
    refine wp rfl hC t_32 ?_
    refine wp rfl hC t_3u ?_
    refine WL_nil ?_
    refine W_cond rfl (by decide) (fun _ => ?_) (fun hc => by cases hc)
    refine wsr ?_
    refine wp rfl hC t_1d ?_
    refine WL_nil ?_
    refine W_ret ?_
    exact fin0 (.cons (.tmp rfl) .nil) (congrArg AV.b (decide_eq_false (fun e => by rw [e] at ha; omega)).symm) trivial
  ·
    subst h
    refine W_region ?_
    refine wp rfl hC t_1 ?_
    refine wp rfl hC t_32 ?_
    refine wp rfl hC t_1 ?_
    refine wp rfl hC t_32 ?_
    refine wp rfl hC t_41 ?_
    refine WL_nil ?_
    refine W_cond rfl (by decide) (fun hc => by cases hc) (fun _ => ?_)
    refine W_skip ?_
    refine W_seq ?_
    refine wsr ?_
    refine wp rfl hC t_1 ?_
    refine wp rfl hC t_32 ?_
    refine wp rfl hC t_1l ?_
    refine WL_nil ?_
    refine W_blk ?_
    refine W_loopW (fun (ζ : Nat) => ⟨0, [(0, .vs na (I .u8 a)), (1, .vs na (I .u8 b)), (12, .i .i64 na), (13, .i .i64 ζ)], []⟩) (fun ζ => ζ ≤ na ∧ a.take ζ = b.take ζ) (fun ζ => na - ζ) (0) ⟨Nat.zero_le _, rfl⟩ (weak (fun k => k) (.cons rfl t_30 t_0 (.cons rfl t_30 t_0 (.cons rfl t_2y trivial (.cons rfl rfl trivial .nil)))) .nil rfl rfl rfl) ?_
    intro i hR
    replace hR : i ≤ na ∧ a.take i = b.take i := hR
    first | show W _ _ _ ⟨0, [(0, .vs na (I .u8 a)), (1, .vs na (I .u8 b)), (12, .i .i64 na), (13, .i .i64 i)], []⟩ | skip
    refine wsr ?_
    refine wp rfl hC t_1e ?_
    refine WL_nil ?_
    refine W_seq ?_
    refine W_cond rfl (by decide) (fun hc => ?_) (fun hc => ?_)
    ·
      replace hc := lss_t hc
      
      refine W_skip ?_
      refine W_seq ?_
      refine W_blk ?_
      refine wsr ?_
      refine wp rfl hC t_1 ?_
      refine wp rfl hC t_4 ?_
      refine WL_nil ?_
      refine W_seq ?_
      rcases (show a.getD i 0 = b.getD i 0 ∨ a.getD i 0 ≠ b.getD i 0 by omega) with h | h
      ·
        have heq : a[i]'(by omega) = b[i]'(by omega) := by
          rw [List.getD_eq_getElem?_getD, List.getD_eq_getElem?_getD, List.getElem?_eq_getElem (by omega), List.getElem?_eq_getElem (by omega)] at h
          exact h
        refine W_drawD hC ?_
        refine WD_cons (.plain rfl t_1) ?_
        refine WD_cons (.plain rfl t_1) ?_
        refine WD_cons (.plain rfl t_7g) ?_
        refine WD_cons (.plain rfl t_6l) ?_
        refine WD_cons (.plain rfl t_1) ?_
        refine WD_cons (.plain rfl t_1) ?_
        refine WD_cons (.plain rfl t_7g) ?_
        refine WD_cons (.plain rfl t_6l) ?_
        refine WD_cons (.plain rfl (ox_cmp hC rfl (.tmp rfl) (.tmp rfl) (r := false) (by simp only [cmpI]; exact decide_eq_false (fun hne => hne h)) rfl rfl)) ?_
        refine WD_nil t_x ?_
        refine W_cond rfl (by decide) (fun hc => by cases hc) (fun _ => ?_)
        refine W_skip ?_
        refine W_region ?_
        refine wp rfl hC t_36 ?_
        refine wp rfl hC t_1 ?_
        refine WL_nil ?_
        exact ⟨(i + 1), ⟨by omega, by rw [List.take_succ_eq_append_getElem (by omega), List.take_succ_eq_append_getElem (by omega), hR.2, heq]⟩, (weak (fun k => k) (.cons rfl t_30 t_0 (.cons rfl t_30 t_0 (.cons rfl t_2y trivial (.cons rfl t_2y trivial .nil)))) .nil rfl rfl rfl), (by omega)⟩
      ·
        refine W_drawD hC ?_
        refine WD_cons (.plain rfl t_1) ?_
        refine WD_cons (.plain rfl t_1) ?_
        refine WD_cons (.plain rfl t_7g) ?_
        refine WD_cons (.plain rfl t_6l) ?_
        refine WD_cons (.plain rfl t_1) ?_
        refine WD_cons (.plain rfl t_1) ?_
        refine WD_cons (.plain rfl t_7g) ?_
        refine WD_cons (.plain rfl t_6l) ?_
        refine WD_cons (.plain rfl (ox_cmp hC rfl (.tmp rfl) (.tmp rfl) (r := true) (by simp only [cmpI]; exact decide_eq_true h) rfl rfl)) ?_
        refine WD_nil t_x ?_
        refine W_cond rfl (by decide) (fun _ => ?_) (fun hc => by cases hc)
        refine wsr ?_
        refine wp rfl hC t_1d ?_
        refine WL_nil ?_
        refine W_ret ?_
        exact fin0 (.cons (.tmp rfl) .nil) (congrArg AV.b (decide_eq_false (fun e => h (by rw [e]))).symm) trivial
    ·
      replace hc := lss_f hc
      obtain rfl : i = na := by omega
      have hab : a = b := by have := hR.2; rwa [List.take_of_length_le (by omega), List.take_of_length_le (by omega)] at this
      refine W_exit ?_
      refine wsr ?_
      refine wp rfl hC t_1d ?_
      refine WL_nil ?_
      refine W_ret ?_
      exact fin0 (.cons (.tmp rfl) .nil) (congrArg AV.b (decide_eq_true hab).symm) trivial
  ·
    refine W_region ?_
    refine wp rfl hC t_1 ?_
    refine wp rfl hC t_32 ?_
    refine wp rfl hC t_1 ?_
    refine wp rfl hC t_32 ?_
    refine wp rfl hC t_3u ?_
    refine WL_nil ?_
    refine W_cond rfl (by decide) (fun _ => ?_) (fun hc => by cases hc)
    refine wsr ?_
    refine wp rfl hC t_1d ?_
    refine WL_nil ?_
    refine W_ret ?_
    exact fin0 (.cons (.tmp rfl) .nil) (congrArg AV.b (decide_eq_false (fun e => by rw [e] at ha; omega)).symm) trivial
set_option maxRecDepth 20000 in
set_option maxHeartbeats 4000000 in
theorem rsame_c (k k2 : Int) (id id2 : List Int) (v v2 n n2 : Int) (b b2 : List Int) (hid : id.length = 16) (hid2 : id2.length = 16) (bid : B8 id) (bid2 : B8 id2) (hl : b.length ≤ 1099511627776) : FnC Tryd.prog 16 [] [.ag (recX k id v n (bodyV b)), .ag (recX k2 id2 v2 n2 (bodyV b2))] [] [] (.b (decide (k = k2 ∧ id = id2 ∧ v = v2 ∧ n = n2 ∧ b = b2))) := by
  refine FnC.introR (N0 := 0) (T := 38) (E := [(0, .ag (recX k id v n (bodyV b))), (1, .ag (recX k2 id2 v2 n2 (bodyV b2)))]) Tryd.func16 rfl (by decide) mix rfl rfl rfl (by simp) rfl ⟨t_b, t_b, trivial⟩ (by simp) t_10 (fun F n0 X w ρ hC hro => ?_)
  refine wsr ?_
  refine wp rfl hC t_3s ?_
  refine wp rfl hC t_3s ?_
  refine wp rfl hC t_1d ?_
  refine WL_nil ?_
  refine W_seq ?_
  rcases (show k ≠ k2 ∨ (k = k2 ∧ id ≠ id2) ∨ (k = k2 ∧ id = id2 ∧ v ≠ v2) ∨ (k = k2 ∧ id = id2 ∧ v = v2 ∧ n ≠ n2) ∨ (k = k2 ∧ id = id2 ∧ v = v2 ∧ n = n2 ∧ b ≠ b2) ∨ (k = k2 ∧ id = id2 ∧ v = v2 ∧ n = n2 ∧ b = b2) from by
    by_cases g1 : k = k2
    · by_cases g2 : id = id2
      · by_cases g3 : v = v2
        · by_cases g4 : n = n2
          · by_cases g5 : b = b2
            · exact .inr (.inr (.inr (.inr (.inr ⟨g1, g2, g3, g4, g5⟩))))
            · exact .inr (.inr (.inr (.inr (.inl ⟨g1, g2, g3, g4, g5⟩))))
          · exact .inr (.inr (.inr (.inl ⟨g1, g2, g3, g4⟩)))
        · exact .inr (.inr (.inl ⟨g1, g2, g3⟩))
      · exact .inr (.inl ⟨g1, g2⟩)
    · exact .inl g1) with q1 | ⟨q1, q2⟩ | ⟨q1, q2, q3⟩ | ⟨q1, q2, q3, q4⟩ | ⟨q1, q2, q3, q4, q5⟩ | ⟨q1, q2, q3, q4, q5⟩
  ·
    refine W_region ?_
    refine wp rfl hC t_3g ?_
    refine wp rfl hC t_3c ?_
    refine wp rfl hC t_3g ?_
    refine wp rfl hC t_3c ?_
    refine wp rfl hC (ox_cmp hC rfl (.tmp rfl) (.tmp rfl) (r := false) t_1t rfl rfl) ?_
    refine wp rfl hC t_1 ?_
    refine WL_cons hC.fn (.no (s1 := ⟨_, (11, .tu []) :: _, _⟩) rfl rfl (by decide) rfl (by decide) (dst_ok rfl rfl) (fun t => setE_cons _ _ _ _) rfl rfl) ?_
    refine WL_cons hC.fn (.no (s1 := ⟨_, (12, .tu []) :: _, _⟩) rfl rfl (by decide) rfl (by decide) (dst_ok rfl rfl) (fun t => setE_cons _ _ _ _) rfl rfl) ?_
    refine WL_cons hC.fn (.no (s1 := ⟨_, (13, .tu []) :: _, _⟩) rfl rfl (by decide) rfl (by decide) (dst_ok rfl rfl) (fun t => setE_cons _ _ _ _) rfl rfl) ?_
    refine WL_cons hC.fn (.no (s1 := ⟨_, (14, .tu []) :: _, _⟩) rfl rfl (by decide) rfl (by decide) (dst_ok rfl rfl) (fun t => setE_cons _ _ _ _) rfl rfl) ?_
    refine WL_cons hC.fn (.no (s1 := ⟨_, (15, .tu []) :: _, _⟩) rfl rfl (by decide) rfl (by decide) (dst_ok rfl rfl) (fun t => setE_cons _ _ _ _) rfl rfl) ?_
    refine wp rfl hC t_2z ?_
    refine wp rfl hC t_1 ?_
    refine WL_cons hC.fn (.no (s1 := ⟨_, (18, .tu []) :: _, _⟩) rfl rfl (by decide) rfl (by decide) (dst_ok rfl rfl) (fun t => setE_cons _ _ _ _) rfl rfl) ?_
    refine WL_cons hC.fn (.no (s1 := ⟨_, (19, .tu []) :: _, _⟩) rfl rfl (by decide) rfl (by decide) (dst_ok rfl rfl) (fun t => setE_cons _ _ _ _) rfl rfl) ?_
    refine WL_cons hC.fn (.no (s1 := ⟨_, (20, .tu []) :: _, _⟩) rfl rfl (by decide) rfl (by decide) (dst_ok rfl rfl) (fun t => setE_cons _ _ _ _) rfl rfl) ?_
    refine WL_cons hC.fn (.no (s1 := ⟨_, (21, .tu []) :: _, _⟩) rfl rfl (by decide) rfl (by decide) (dst_ok rfl rfl) (fun t => setE_cons _ _ _ _) rfl rfl) ?_
    refine WL_cons hC.fn (.no (s1 := ⟨_, (22, .tu []) :: _, _⟩) rfl rfl (by decide) rfl (by decide) (dst_ok rfl rfl) (fun t => setE_cons _ _ _ _) rfl rfl) ?_
    refine wp rfl hC t_2z ?_
    refine wp rfl hC t_1 ?_
    refine WL_cons hC.fn (.no (s1 := ⟨_, (25, .tu []) :: _, _⟩) rfl rfl (by decide) rfl (by decide) (dst_ok rfl rfl) (fun t => setE_cons _ _ _ _) rfl rfl) ?_
    refine WL_cons hC.fn (.no (s1 := ⟨_, (26, .tu []) :: _, _⟩) rfl rfl (by decide) rfl (by decide) (dst_ok rfl rfl) (fun t => setE_cons _ _ _ _) rfl rfl) ?_
    refine WL_cons hC.fn (.no (s1 := ⟨_, (27, .tu []) :: _, _⟩) rfl rfl (by decide) rfl (by decide) (dst_ok rfl rfl) (fun t => setE_cons _ _ _ _) rfl rfl) ?_
    refine WL_cons hC.fn (.no (s1 := ⟨_, (28, .tu []) :: _, _⟩) rfl rfl (by decide) rfl (by decide) (dst_ok rfl rfl) (fun t => setE_cons _ _ _ _) rfl rfl) ?_
    refine WL_cons hC.fn (.no (s1 := ⟨_, (29, .tu []) :: _, _⟩) rfl rfl (by decide) rfl (by decide) (dst_ok rfl rfl) (fun t => setE_cons _ _ _ _) rfl rfl) ?_
    refine wp rfl hC t_2z ?_
    refine wp rfl hC t_1 ?_
    refine WL_cons hC.fn (.no (s1 := ⟨_, (32, .tu []) :: _, _⟩) rfl rfl (by decide) rfl (by decide) (dst_ok rfl rfl) (fun t => setE_cons _ _ _ _) rfl rfl) ?_
    refine WL_cons hC.fn (.no (s1 := ⟨_, (33, .tu []) :: _, _⟩) rfl rfl (by decide) rfl (by decide) (dst_ok rfl rfl) (fun t => setE_cons _ _ _ _) rfl rfl) ?_
    refine WL_cons hC.fn (.no (s1 := ⟨_, (34, .tu []) :: _, _⟩) rfl rfl (by decide) rfl (by decide) (dst_ok rfl rfl) (fun t => setE_cons _ _ _ _) rfl rfl) ?_
    refine WL_cons hC.fn (.no (s1 := ⟨_, (35, .tu []) :: _, _⟩) rfl rfl (by decide) rfl (by decide) (dst_ok rfl rfl) (fun t => setE_cons _ _ _ _) rfl rfl) ?_
    refine WL_cons hC.fn (.no (s1 := ⟨_, (36, .tu []) :: _, _⟩) rfl rfl (by decide) rfl (by decide) (dst_ok rfl rfl) (fun t => setE_cons _ _ _ _) rfl rfl) ?_
    refine wp rfl hC t_2z ?_
    refine wp rfl hC t_4 ?_
    refine WL_nil ?_
    refine W_ret ?_
    exact fin0 (.cons (.tmp rfl) .nil) (congrArg AV.b (decide_eq_false (fun e => q1 e.1)).symm) trivial
  ·
    refine W_region ?_
    refine wp rfl hC t_3g ?_
    refine wp rfl hC t_3c ?_
    refine wp rfl hC t_3g ?_
    refine wp rfl hC t_3c ?_
    refine wp rfl hC t_4b ?_
    refine wp rfl hC t_1 ?_
    refine WL_cons hC.fn t_6t ?_
    refine WL_cons hC.fn t_77 ?_
    refine WL_cons hC.fn t_6t ?_
    refine WL_cons hC.fn (.yes rfl rfl (by decide) rfl t_52) ?_
    refine WL_cons hC.fn (.yes rfl rfl (by decide) rfl (ox_eqI (r := false) hC (.inl rfl) (.tmp rfl) (.tmp rfl) sh_23 kt_23 sg_23 eg_23 hid hid2 (wf_u8 bid) (wf_u8 bid2) (by simp [q2]) rfl rfl)) ?_
    refine wp rfl hC t_2z ?_
    refine wp rfl hC t_1 ?_
    refine WL_cons hC.fn (.no (s1 := ⟨_, (18, .tu []) :: _, _⟩) rfl rfl (by decide) rfl (by decide) (dst_ok rfl rfl) (fun t => setE_cons _ _ _ _) rfl rfl) ?_
    refine WL_cons hC.fn (.no (s1 := ⟨_, (19, .tu []) :: _, _⟩) rfl rfl (by decide) rfl (by decide) (dst_ok rfl rfl) (fun t => setE_cons _ _ _ _) rfl rfl) ?_
    refine WL_cons hC.fn (.no (s1 := ⟨_, (20, .tu []) :: _, _⟩) rfl rfl (by decide) rfl (by decide) (dst_ok rfl rfl) (fun t => setE_cons _ _ _ _) rfl rfl) ?_
    refine WL_cons hC.fn (.no (s1 := ⟨_, (21, .tu []) :: _, _⟩) rfl rfl (by decide) rfl (by decide) (dst_ok rfl rfl) (fun t => setE_cons _ _ _ _) rfl rfl) ?_
    refine WL_cons hC.fn (.no (s1 := ⟨_, (22, .tu []) :: _, _⟩) rfl rfl (by decide) rfl (by decide) (dst_ok rfl rfl) (fun t => setE_cons _ _ _ _) rfl rfl) ?_
    refine wp rfl hC t_2z ?_
    refine wp rfl hC t_1 ?_
    refine WL_cons hC.fn (.no (s1 := ⟨_, (25, .tu []) :: _, _⟩) rfl rfl (by decide) rfl (by decide) (dst_ok rfl rfl) (fun t => setE_cons _ _ _ _) rfl rfl) ?_
    refine WL_cons hC.fn (.no (s1 := ⟨_, (26, .tu []) :: _, _⟩) rfl rfl (by decide) rfl (by decide) (dst_ok rfl rfl) (fun t => setE_cons _ _ _ _) rfl rfl) ?_
    refine WL_cons hC.fn (.no (s1 := ⟨_, (27, .tu []) :: _, _⟩) rfl rfl (by decide) rfl (by decide) (dst_ok rfl rfl) (fun t => setE_cons _ _ _ _) rfl rfl) ?_
    refine WL_cons hC.fn (.no (s1 := ⟨_, (28, .tu []) :: _, _⟩) rfl rfl (by decide) rfl (by decide) (dst_ok rfl rfl) (fun t => setE_cons _ _ _ _) rfl rfl) ?_
    refine WL_cons hC.fn (.no (s1 := ⟨_, (29, .tu []) :: _, _⟩) rfl rfl (by decide) rfl (by decide) (dst_ok rfl rfl) (fun t => setE_cons _ _ _ _) rfl rfl) ?_
    refine wp rfl hC t_2z ?_
    refine wp rfl hC t_1 ?_
    refine WL_cons hC.fn (.no (s1 := ⟨_, (32, .tu []) :: _, _⟩) rfl rfl (by decide) rfl (by decide) (dst_ok rfl rfl) (fun t => setE_cons _ _ _ _) rfl rfl) ?_
    refine WL_cons hC.fn (.no (s1 := ⟨_, (33, .tu []) :: _, _⟩) rfl rfl (by decide) rfl (by decide) (dst_ok rfl rfl) (fun t => setE_cons _ _ _ _) rfl rfl) ?_
    refine WL_cons hC.fn (.no (s1 := ⟨_, (34, .tu []) :: _, _⟩) rfl rfl (by decide) rfl (by decide) (dst_ok rfl rfl) (fun t => setE_cons _ _ _ _) rfl rfl) ?_
    refine WL_cons hC.fn (.no (s1 := ⟨_, (35, .tu []) :: _, _⟩) rfl rfl (by decide) rfl (by decide) (dst_ok rfl rfl) (fun t => setE_cons _ _ _ _) rfl rfl) ?_
    refine WL_cons hC.fn (.no (s1 := ⟨_, (36, .tu []) :: _, _⟩) rfl rfl (by decide) rfl (by decide) (dst_ok rfl rfl) (fun t => setE_cons _ _ _ _) rfl rfl) ?_
    refine wp rfl hC t_2z ?_
    refine wp rfl hC t_4 ?_
    refine WL_nil ?_
    refine W_ret ?_
    exact fin0 (.cons (.tmp rfl) .nil) (congrArg AV.b (decide_eq_false (fun e => q2 e.2.1)).symm) trivial
  ·
    refine W_region ?_
    refine wp rfl hC t_3g ?_
    refine wp rfl hC t_3c ?_
    refine wp rfl hC t_3g ?_
    refine wp rfl hC t_3c ?_
    refine wp rfl hC t_4b ?_
    refine wp rfl hC t_1 ?_
    refine WL_cons hC.fn t_6t ?_
    refine WL_cons hC.fn t_77 ?_
    refine WL_cons hC.fn t_6t ?_
    refine WL_cons hC.fn (.yes rfl rfl (by decide) rfl t_52) ?_
    refine WL_cons hC.fn (.yes rfl rfl (by decide) rfl t_2k) ?_
    refine wp rfl hC t_2z ?_
    refine wp rfl hC t_1 ?_
    refine WL_cons hC.fn t_6p ?_
    refine WL_cons hC.fn t_6n ?_
    refine WL_cons hC.fn t_6p ?_
    refine WL_cons hC.fn (.yes rfl rfl (by decide) rfl t_59) ?_
    refine WL_cons hC.fn (.yes rfl rfl (by decide) rfl (ox_cmp hC rfl (.tmp rfl) (.tmp rfl) (r := false) t_1t rfl rfl)) ?_
    refine wp rfl hC t_2z ?_
    refine wp rfl hC t_1 ?_
    refine WL_cons hC.fn (.no (s1 := ⟨_, (25, .tu []) :: _, _⟩) rfl rfl (by decide) rfl (by decide) (dst_ok rfl rfl) (fun t => setE_cons _ _ _ _) rfl rfl) ?_
    refine WL_cons hC.fn (.no (s1 := ⟨_, (26, .tu []) :: _, _⟩) rfl rfl (by decide) rfl (by decide) (dst_ok rfl rfl) (fun t => setE_cons _ _ _ _) rfl rfl) ?_
    refine WL_cons hC.fn (.no (s1 := ⟨_, (27, .tu []) :: _, _⟩) rfl rfl (by decide) rfl (by decide) (dst_ok rfl rfl) (fun t => setE_cons _ _ _ _) rfl rfl) ?_
    refine WL_cons hC.fn (.no (s1 := ⟨_, (28, .tu []) :: _, _⟩) rfl rfl (by decide) rfl (by decide) (dst_ok rfl rfl) (fun t => setE_cons _ _ _ _) rfl rfl) ?_
    refine WL_cons hC.fn (.no (s1 := ⟨_, (29, .tu []) :: _, _⟩) rfl rfl (by decide) rfl (by decide) (dst_ok rfl rfl) (fun t => setE_cons _ _ _ _) rfl rfl) ?_
    refine wp rfl hC t_2z ?_
    refine wp rfl hC t_1 ?_
    refine WL_cons hC.fn (.no (s1 := ⟨_, (32, .tu []) :: _, _⟩) rfl rfl (by decide) rfl (by decide) (dst_ok rfl rfl) (fun t => setE_cons _ _ _ _) rfl rfl) ?_
    refine WL_cons hC.fn (.no (s1 := ⟨_, (33, .tu []) :: _, _⟩) rfl rfl (by decide) rfl (by decide) (dst_ok rfl rfl) (fun t => setE_cons _ _ _ _) rfl rfl) ?_
    refine WL_cons hC.fn (.no (s1 := ⟨_, (34, .tu []) :: _, _⟩) rfl rfl (by decide) rfl (by decide) (dst_ok rfl rfl) (fun t => setE_cons _ _ _ _) rfl rfl) ?_
    refine WL_cons hC.fn (.no (s1 := ⟨_, (35, .tu []) :: _, _⟩) rfl rfl (by decide) rfl (by decide) (dst_ok rfl rfl) (fun t => setE_cons _ _ _ _) rfl rfl) ?_
    refine WL_cons hC.fn (.no (s1 := ⟨_, (36, .tu []) :: _, _⟩) rfl rfl (by decide) rfl (by decide) (dst_ok rfl rfl) (fun t => setE_cons _ _ _ _) rfl rfl) ?_
    refine wp rfl hC t_2z ?_
    refine wp rfl hC t_4 ?_
    refine WL_nil ?_
    refine W_ret ?_
    exact fin0 (.cons (.tmp rfl) .nil) (congrArg AV.b (decide_eq_false (fun e => q3 e.2.2.1)).symm) trivial
  ·
    refine W_region ?_
    refine wp rfl hC t_3g ?_
    refine wp rfl hC t_3c ?_
    refine wp rfl hC t_3g ?_
    refine wp rfl hC t_3c ?_
    refine wp rfl hC t_4b ?_
    refine wp rfl hC t_1 ?_
    refine WL_cons hC.fn t_6t ?_
    refine WL_cons hC.fn t_77 ?_
    refine WL_cons hC.fn t_6t ?_
    refine WL_cons hC.fn (.yes rfl rfl (by decide) rfl t_52) ?_
    refine WL_cons hC.fn (.yes rfl rfl (by decide) rfl t_2k) ?_
    refine wp rfl hC t_2z ?_
    refine wp rfl hC t_1 ?_
    refine WL_cons hC.fn t_6p ?_
    refine WL_cons hC.fn t_6n ?_
    refine WL_cons hC.fn t_6p ?_
    refine WL_cons hC.fn (.yes rfl rfl (by decide) rfl t_59) ?_
    refine WL_cons hC.fn (.yes rfl rfl (by decide) rfl t_4b) ?_
    refine wp rfl hC t_2z ?_
    refine wp rfl hC t_1 ?_
    refine WL_cons hC.fn t_6w ?_
    refine WL_cons hC.fn t_6r ?_
    refine WL_cons hC.fn t_6w ?_
    refine WL_cons hC.fn (.yes rfl rfl (by decide) rfl t_5i) ?_
    refine WL_cons hC.fn (.yes rfl rfl (by decide) rfl (ox_cmp hC rfl (.tmp rfl) (.tmp rfl) (r := false) t_1t rfl rfl)) ?_
    refine wp rfl hC t_2z ?_
    refine wp rfl hC t_1 ?_
    refine WL_cons hC.fn (.no (s1 := ⟨_, (32, .tu []) :: _, _⟩) rfl rfl (by decide) rfl (by decide) (dst_ok rfl rfl) (fun t => setE_cons _ _ _ _) rfl rfl) ?_
    refine WL_cons hC.fn (.no (s1 := ⟨_, (33, .tu []) :: _, _⟩) rfl rfl (by decide) rfl (by decide) (dst_ok rfl rfl) (fun t => setE_cons _ _ _ _) rfl rfl) ?_
    refine WL_cons hC.fn (.no (s1 := ⟨_, (34, .tu []) :: _, _⟩) rfl rfl (by decide) rfl (by decide) (dst_ok rfl rfl) (fun t => setE_cons _ _ _ _) rfl rfl) ?_
    refine WL_cons hC.fn (.no (s1 := ⟨_, (35, .tu []) :: _, _⟩) rfl rfl (by decide) rfl (by decide) (dst_ok rfl rfl) (fun t => setE_cons _ _ _ _) rfl rfl) ?_
    refine WL_cons hC.fn (.no (s1 := ⟨_, (36, .tu []) :: _, _⟩) rfl rfl (by decide) rfl (by decide) (dst_ok rfl rfl) (fun t => setE_cons _ _ _ _) rfl rfl) ?_
    refine wp rfl hC t_2z ?_
    refine wp rfl hC t_4 ?_
    refine WL_nil ?_
    refine W_ret ?_
    exact fin0 (.cons (.tmp rfl) .nil) (congrArg AV.b (decide_eq_false (fun e => q4 e.2.2.2.1)).symm) trivial
  ·
    refine W_region ?_
    refine wp rfl hC t_3g ?_
    refine wp rfl hC t_3c ?_
    refine wp rfl hC t_3g ?_
    refine wp rfl hC t_3c ?_
    refine wp rfl hC t_4b ?_
    refine wp rfl hC t_1 ?_
    refine WL_cons hC.fn t_6t ?_
    refine WL_cons hC.fn t_77 ?_
    refine WL_cons hC.fn t_6t ?_
    refine WL_cons hC.fn (.yes rfl rfl (by decide) rfl t_52) ?_
    refine WL_cons hC.fn (.yes rfl rfl (by decide) rfl t_2k) ?_
    refine wp rfl hC t_2z ?_
    refine wp rfl hC t_1 ?_
    refine WL_cons hC.fn t_6p ?_
    refine WL_cons hC.fn t_6n ?_
    refine WL_cons hC.fn t_6p ?_
    refine WL_cons hC.fn (.yes rfl rfl (by decide) rfl t_59) ?_
    refine WL_cons hC.fn (.yes rfl rfl (by decide) rfl t_4b) ?_
    refine wp rfl hC t_2z ?_
    refine wp rfl hC t_1 ?_
    refine WL_cons hC.fn t_6w ?_
    refine WL_cons hC.fn t_6r ?_
    refine WL_cons hC.fn t_6w ?_
    refine WL_cons hC.fn (.yes rfl rfl (by decide) rfl t_5i) ?_
    refine WL_cons hC.fn (.yes rfl rfl (by decide) rfl t_4b) ?_
    refine wp rfl hC t_2z ?_
    refine wp rfl hC t_1 ?_
    refine WL_cons hC.fn t_6f ?_
    refine WL_cons hC.fn t_6h ?_
    refine WL_cons hC.fn t_6f ?_
    refine WL_cons hC.fn (.yes rfl rfl (by decide) rfl (oc_load hC (.tmp rfl) t_3 shp_22 (by exact (unit_rz hid2)) rfl rfl)) ?_
    refine WL_cons hC.fn (.yes rfl rfl (by decide) rfl t_82) ?_
    rw [decide_eq_false q5]
    refine wp rfl hC t_2z ?_
    refine wp rfl hC t_4 ?_
    refine WL_nil ?_
    refine W_ret ?_
    exact fin0 (.cons (.tmp rfl) .nil) (congrArg AV.b (decide_eq_false (fun e => q5 e.2.2.2.2)).symm) trivial
  ·
    refine W_region ?_
    refine wp rfl hC t_3g ?_
    refine wp rfl hC t_3c ?_
    refine wp rfl hC t_3g ?_
    refine wp rfl hC t_3c ?_
    refine wp rfl hC t_4b ?_
    refine wp rfl hC t_1 ?_
    refine WL_cons hC.fn t_6t ?_
    refine WL_cons hC.fn t_77 ?_
    refine WL_cons hC.fn t_6t ?_
    refine WL_cons hC.fn (.yes rfl rfl (by decide) rfl t_52) ?_
    refine WL_cons hC.fn (.yes rfl rfl (by decide) rfl t_2k) ?_
    refine wp rfl hC t_2z ?_
    refine wp rfl hC t_1 ?_
    refine WL_cons hC.fn t_6p ?_
    refine WL_cons hC.fn t_6n ?_
    refine WL_cons hC.fn t_6p ?_
    refine WL_cons hC.fn (.yes rfl rfl (by decide) rfl t_59) ?_
    refine WL_cons hC.fn (.yes rfl rfl (by decide) rfl t_4b) ?_
    refine wp rfl hC t_2z ?_
    refine wp rfl hC t_1 ?_
    refine WL_cons hC.fn t_6w ?_
    refine WL_cons hC.fn t_6r ?_
    refine WL_cons hC.fn t_6w ?_
    refine WL_cons hC.fn (.yes rfl rfl (by decide) rfl t_5i) ?_
    refine WL_cons hC.fn (.yes rfl rfl (by decide) rfl t_4b) ?_
    refine wp rfl hC t_2z ?_
    refine wp rfl hC t_1 ?_
    refine WL_cons hC.fn t_6f ?_
    refine WL_cons hC.fn t_6h ?_
    refine WL_cons hC.fn t_6f ?_
    refine WL_cons hC.fn (.yes rfl rfl (by decide) rfl (oc_load hC (.tmp rfl) t_3 shp_22 (by exact (unit_rz hid2)) rfl rfl)) ?_
    refine WL_cons hC.fn (.yes rfl rfl (by decide) rfl t_82) ?_
    rw [decide_eq_true q5]
    refine wp rfl hC t_2z ?_
    refine wp rfl hC t_4 ?_
    refine WL_nil ?_
    refine W_ret ?_
    exact fin0 (.cons (.tmp rfl) .nil) (congrArg AV.b (decide_eq_true ⟨q1, q2, q3, q4, q5⟩).symm) trivial
set_option maxRecDepth 20000 in
set_option maxHeartbeats 4000000 in
theorem rsame0_c  : FnC Tryd.prog 16 [] [.ag (recX 0 (List.replicate 16 0) 0 0 .nils), .ag (recX 0 (List.replicate 16 0) 0 0 .nils)] [] [] (.b true) := by
  refine FnC.introR (N0 := 0) (T := 38) (E := [(0, .ag (recX 0 (List.replicate 16 0) 0 0 .nils)), (1, .ag (recX 0 (List.replicate 16 0) 0 0 .nils))]) Tryd.func16 rfl (by decide) mix rfl rfl rfl (by simp) rfl ⟨t_b, t_b, trivial⟩ (by simp) t_10 (fun F n0 X w ρ hC hro => ?_)
  refine wsr ?_
  refine wp rfl hC t_3s ?_
  refine wp rfl hC t_3s ?_
  refine wp rfl hC t_1d ?_
  refine WL_nil ?_
  refine wsr ?_
  refine wp rfl hC t_3g ?_
  refine wp rfl hC t_3c ?_
  refine wp rfl hC t_3g ?_
  refine wp rfl hC t_3c ?_
  refine wp rfl hC (ox_cmp hC rfl (.tmp rfl) (.tmp rfl) (r := true) rfl rfl rfl) ?_
  refine wp rfl hC t_1 ?_
  refine WL_cons hC.fn t_6t ?_
  refine WL_cons hC.fn t_5r ?_
  refine WL_cons hC.fn t_6t ?_
  refine WL_cons hC.fn t_5r ?_
  refine WL_cons hC.fn (.yes rfl rfl (by decide) rfl (ox_eqI (r := true) hC (.inl rfl) (.tmp rfl) (.tmp rfl) sh_23 kt_23 sg_23 eg_23 rfl rfl (wf_u8 (B8_zeros 16)) (wf_u8 (B8_zeros 16)) (by simp) rfl rfl)) ?_
  refine wp rfl hC t_2z ?_
  refine wp rfl hC t_1 ?_
  refine WL_cons hC.fn t_6p ?_
  refine WL_cons hC.fn (.yes rfl rfl (by decide) rfl (oc_load hC (.tmp rfl) t_3 shp_3 (by exact (unit_rv (id := (List.replicate 16 0)) rfl)) rfl rfl)) ?_
  refine WL_cons hC.fn t_6p ?_
  refine WL_cons hC.fn (.yes rfl rfl (by decide) rfl (oc_load hC (.tmp rfl) t_3 shp_3 (by exact (unit_rv (id := (List.replicate 16 0)) rfl)) rfl rfl)) ?_
  refine WL_cons hC.fn (.yes rfl rfl (by decide) rfl (ox_cmp hC rfl (.tmp rfl) (.tmp rfl) (r := true) rfl rfl rfl)) ?_
  refine wp rfl hC t_2z ?_
  refine wp rfl hC t_1 ?_
  refine WL_cons hC.fn t_6w ?_
  refine WL_cons hC.fn (.yes rfl rfl (by decide) rfl (oc_load hC (.tmp rfl) t_3 shp_3 (by exact (unit_rn (id := (List.replicate 16 0)) rfl)) rfl rfl)) ?_
  refine WL_cons hC.fn t_6w ?_
  refine WL_cons hC.fn (.yes rfl rfl (by decide) rfl (oc_load hC (.tmp rfl) t_3 shp_3 (by exact (unit_rn (id := (List.replicate 16 0)) rfl)) rfl rfl)) ?_
  refine WL_cons hC.fn (.yes rfl rfl (by decide) rfl (ox_cmp hC rfl (.tmp rfl) (.tmp rfl) (r := true) rfl rfl rfl)) ?_
  refine wp rfl hC t_2z ?_
  refine wp rfl hC t_1 ?_
  refine WL_cons hC.fn t_6f ?_
  refine WL_cons hC.fn (.yes rfl rfl (by decide) rfl (oc_load hC (.tmp rfl) t_3 shp_22 (by exact (unit_rz (id := (List.replicate 16 0)) rfl)) rfl rfl)) ?_
  refine WL_cons hC.fn t_6f ?_
  refine WL_cons hC.fn (.yes rfl rfl (by decide) rfl (oc_load hC (.tmp rfl) t_3 shp_22 (by exact (unit_rz (id := (List.replicate 16 0)) rfl)) rfl rfl)) ?_
  refine WL_cons hC.fn (.yes rfl rfl (by decide) rfl (oc_call hC (.cons (.tmp rfl) (.cons (.tmp rfl) .nil)) (.cons1 t_31 (.cons1 t_31 (.same t_0))) (equal_c 0 0 [] [] rfl rfl (by decide)) glob_nil t_0 t_8 rfl rfl)) ?_
  rw [show decide (([] : List Int) = []) = true from rfl]
  refine wp rfl hC t_2z ?_
  refine wp rfl hC t_4 ?_
  refine WL_nil ?_
  refine W_ret ?_
  exact fin0 (.cons (.tmp rfl) .nil) rfl trivial
set_option maxRecDepth 20000 in
set_option maxHeartbeats 4000000 in
theorem header_c (k : Int) (id : List Int) (v n : Int) (b : List Int) (hid : id.length = 16) (bid : B8 id) (bb : B8 b) (hR : RightR k v n b.length) : FnC Tryd.prog 19 [] [.ag (recX k id v n (bodyV b))] [] [(0, .row 5 1 (hdrL k id v n).length (I .u8 (hdrL k id v n)))] (.row 0) := by
  have hRR := hR
  obtain ⟨g1, g2, g3, g4, g5, g6, g7⟩ := hR
  have hlh := length_hdrL (k := k) (id := id) (v := v) (n := n)
  have p1 := length_putV7 v.toNat
  have p2 := length_putV7 n.toNat
  have hd : (hdrL k id v n) = ([84, 65, 80, 69, k] ++ id) ++ putV v.toNat ++ putV n.toNat := by unfold hdrL; rfl
  refine FnC.introR (N0 := 0) (T := 24) (E := [(0, .ag (recX k id v n (bodyV b)))]) Tryd.func19 rfl (by decide) mix rfl rfl rfl (by simp) rfl ⟨t_b, trivial⟩ (by simp) (by
        intro S ha hr hw
        have s0 : S 0 := hw 0 t_17 t_5
        refine ⟨by first | exact inSL_I _ | simp [s0], fun k b hm => ?_⟩
        simp only [List.mem_cons, Prod.mk.injEq, List.not_mem_nil, or_false] at hm
        rcases hm with ⟨rfl, rfl⟩
        · exact ⟨s0, by first | exact inSL_I _ | simp [s0]⟩) (fun F n0 X w ρ hC hro => ?_)
  refine wsr ?_
  refine wp rfl hC t_3s ?_
  refine wp rfl hC t_v ?_
  refine WL_nil ?_
  refine W_seq ?_
  refine wsr ?_
  refine wp rfl hC t_3e ?_
  refine wp rfl hC (oc_call hC (.cons (.tmp rfl) .nil) (.cons1 (.free t_0) (.same t_0)) (right_t k id v n b hid bid bb hRR) glob_nil t_0 t_8 rfl rfl) ?_
  refine wp rfl hC t_1m ?_
  refine WL_nil ?_
  refine W_cond rfl (by decide) (fun hc => by cases hc) (fun _ => ?_)
  refine W_skip ?_
  refine wsr ?_
  refine wp rfl hC (ox_litRI (k := .u8) (ws := [84, 65, 80, 69]) hC (.cons .cint (.cons .cint (.cons .cint (.cons .cint .nil)))) Tryd.underlying22 cells_5 zero_5 rfl (by decide) rfl rfl t_5 rfl rfl rfl) ?_
  refine wp rfl hC t_4w ?_
  refine wp rfl hC t_3g ?_
  refine wp rfl hC t_3c ?_
  refine wp rfl hC (oc_conv hC (.tmp rfl) rfl Tryd.underlying5 (r := k) (u8_conv (by omega)) rfl rfl) ?_
  refine wp rfl hC t_3v ?_
  refine wp rfl hC (ox_append (n' := 5) (cs' := I .u8 [84, 65, 80, 69, k]) hC (.tmp rfl) (.tmp rfl) t_35 t_a t_r Tryd.underlying22 cells_5 bytes_5 zero_5 rfl (by decide) t_15 t_t rfl app_1 t_n (by omega) rfl rfl) ?_
  refine wp rfl hC t_4 ?_
  refine WL_nil ?_
  refine W_seq ?_
  refine W_drawD hC ?_
  refine WD_cons (.plain rfl t_1) ?_
  refine WD_cons (.plain rfl t_3q) ?_
  refine WD_cons (.plain rfl t_73) ?_
  refine WD_cons (.plain rfl (ox_append (n' := 21) (cs' := I .u8 ([84, 65, 80, 69, k] ++ id)) hC (.tmp rfl) (.tmp rfl) t_35 t_a t_r Tryd.underlying22 cells_5 bytes_5 zero_5 rfl (by decide) (by show 16 ≤ ((recX k id v n (bodyV b)).drop 1).length; rw [List.length_drop, length_recX hid]; decide) (by show (((recX k id v n (bodyV b)).drop 1).take 16).all AV.one = true; rw [rec_id hid]; exact one_I) rfl (by show _ ++ ((recX k id v n (bodyV b)).drop 1).take 16 = _; rw [rec_id hid]; exact List.map_append.symm) t_n (by omega) rfl rfl)) ?_
  refine WD_cons (.plain rfl t_3k) ?_
  refine WD_cons (.plain rfl t_3i) ?_
  refine WD_cons (.plain rfl (oc_callN hC (.cons (.tmp rfl) (.cons (.tmp rfl) .nil)) (.cons1 t_31 (.cons1 (.free t_0) (.same t_0))) (put_c 21 v.toNat ([84, 65, 80, 69, k] ++ id) v (by simp [hid]) (by decide) (.inl ⟨by omega, by omega⟩)) glob_nil t_0 rfl t_q rfl rfl)) ?_
  refine WD_cons (.plain rfl t_3t) ?_
  refine WD_cons (.plain rfl t_3o) ?_
  refine WD_cons (.plain rfl (oc_callN hC (.cons (.tmp rfl) (.cons (.tmp rfl) .nil)) (.cons1 t_31 (.cons1 (.free t_0) (.same t_0))) (put_c (21 + (putV v.toNat).length) n.toNat (([84, 65, 80, 69, k] ++ id) ++ putV v.toNat) n (by simp [hid]; omega) (by omega) (.inl ⟨by omega, by omega⟩)) glob_nil t_0 rfl t_q rfl rfl)) ?_
  rw [← hd, show 21 + (putV v.toNat).length + (putV n.toNat).length = (hdrL k id v n).length by omega]
  refine WD_cons (.plain rfl t_4) ?_
  refine WD_nil t_x ?_
  refine W_ret ?_
  exact fin1 (.cons (.tmp rfl) .nil) rfl rfl (inSL_I _)
theorem fill_rec {place : Nat → Option (Nat × Nat)} {k v n : Int} {id b : List Int} (h0 : place 0 = some (0, 1)) (h1 : place 1 = some (1, 16)) (h2 : place 2 = some (17, 1)) (h3 : place 3 = some (18, 1)) (h4 : place 4 = some (19, 1)) (hid : id.length = 16) :
    fillAV place (.i .i64 0 :: (I .u8 (List.replicate 16 0) ++ [.i .i64 0, .i .i64 0, .nils])) [(0, .i .i64 k), (1, .ag (I .u8 id)), (2, .i .i64 v), (3, .i .i64 n), (4, bodyV b)] = some (.i .i64 k :: (I .u8 id ++ [.i .i64 v, .i .i64 n, bodyV b])) := by
  match id, hid with
  | [c0, c1, c2, c3, c4, c5, c6, c7, c8, c9, c10, c11, c12, c13, c14, c15], _ =>
    simp [fillAV, h0, h1, h2, h3, h4, AV.cells, AV.flat, AV.one, bodyV, List.replicate]
set_option maxRecDepth 20000 in
set_option maxHeartbeats 4000000 in
theorem rright_t (k : Int) (id : List Int) (v n : Int) (b : List Int) (hid : id.length = 16) (bid : B8 id) (bb : B8 b) (hR : RightR k v n b.length) : FnC Tryd.prog 15 [] [.ag (recX k id v n (bodyV b))] [] [] (.b true) := by
  obtain ⟨g1, g2, g3, g4, g5, g6, g7⟩ := hR
  refine FnC.introR (N0 := 0) (T := 37) (E := [(0, .ag (recX k id v n (bodyV b)))]) Tryd.func15 rfl (by decide) mix rfl rfl rfl (by simp) rfl ⟨t_b, trivial⟩ (by simp) t_10 (fun F n0 X w ρ hC hro => ?_)
  refine wsr ?_
  refine wp rfl hC t_3s ?_
  refine wp rfl hC t_1d ?_
  refine WL_nil ?_
  refine wsr ?_
  refine wp rfl hC t_3x ?_
  refine wp rfl hC t_3c ?_
  refine wp rfl hC t_3b ?_
  refine wp rfl hC t_1 ?_
  refine WL_cons hC.fn t_78 ?_
  refine WL_cons hC.fn t_6s ?_
  refine WL_cons hC.fn t_6i ?_
  refine wp rfl hC t_2z ?_
  refine wp rfl hC t_1 ?_
  refine WL_cons hC.fn t_6x ?_
  refine WL_cons hC.fn t_6n ?_
  refine WL_cons hC.fn t_6i ?_
  refine wp rfl hC t_2z ?_
  refine wp rfl hC t_1 ?_
  refine WL_cons hC.fn t_6x ?_
  refine WL_cons hC.fn t_6n ?_
  refine WL_cons hC.fn t_6i ?_
  refine wp rfl hC t_2z ?_
  refine wp rfl hC t_1 ?_
  refine WL_cons hC.fn t_79 ?_
  refine WL_cons hC.fn t_6r ?_
  refine WL_cons hC.fn t_6i ?_
  refine wp rfl hC t_2z ?_
  refine wp rfl hC t_1 ?_
  refine WL_cons hC.fn t_79 ?_
  refine WL_cons hC.fn t_6r ?_
  refine WL_cons hC.fn t_6i ?_
  refine wp rfl hC t_2z ?_
  refine wp rfl hC t_1 ?_
  refine WL_cons hC.fn (.yes rfl rfl (by decide) rfl (oc_field hC (.tmp rfl) fld_40_4 (by decide) t_9 rfl rfl)) ?_
  refine WL_cons hC.fn t_6h ?_
  refine WL_cons hC.fn t_6j ?_
  refine WL_cons hC.fn t_6i ?_
  refine wp rfl hC t_2z ?_
  refine wp rfl hC t_4 ?_
  refine WL_nil ?_
  refine W_ret ?_
  exact fin0 (.cons (.tmp rfl) .nil) rfl trivial
set_option maxRecDepth 20000 in
set_option maxHeartbeats 4000000 in
theorem rright_f (k : Int) (id : List Int) (v n : Int) (b : List Int) (hid : id.length = 16) (bid : B8 id) (bb : B8 b) (hR : ¬ RightR k v n b.length) : FnC Tryd.prog 15 [] [.ag (recX k id v n (bodyV b))] [] [] (.b false) := by
  have hc : k < 1 ∨ (1 ≤ k ∧ 4 < k) ∨ (1 ≤ k ∧ k ≤ 4 ∧ v < 0) ∨ (1 ≤ k ∧ k ≤ 4 ∧ 0 ≤ v ∧ 64 ≤ v) ∨ (1 ≤ k ∧ k ≤ 4 ∧ 0 ≤ v ∧ v < 64 ∧ n < 0) ∨ (1 ≤ k ∧ k ≤ 4 ∧ 0 ≤ v ∧ v < 64 ∧ 0 ≤ n ∧ 1099511627775 < n) ∨ (1 ≤ k ∧ k ≤ 4 ∧ 0 ≤ v ∧ v < 64 ∧ 0 ≤ n ∧ n ≤ 1099511627775 ∧ 262144 < b.length) := by unfold RightR at hR; omega
  refine FnC.introR (N0 := 0) (T := 37) (E := [(0, .ag (recX k id v n (bodyV b)))]) Tryd.func15 rfl (by decide) mix rfl rfl rfl (by simp) rfl ⟨t_b, trivial⟩ (by simp) t_10 (fun F n0 X w ρ hC hro => ?_)
  refine wsr ?_
  refine wp rfl hC t_3s ?_
  refine wp rfl hC t_1d ?_
  refine WL_nil ?_
  refine W_seq ?_
  rcases hc with h | h | h | h | h | h | h
  ·
    refine W_region ?_
    refine wp rfl hC t_3x ?_
    refine wp rfl hC t_3c ?_
    refine wp rfl hC t_37 ?_
    refine wp rfl hC t_1 ?_
    refine WL_cons hC.fn (.no (s1 := ⟨_, (7, .tu []) :: _, _⟩) rfl rfl (by decide) rfl (by decide) (dst_ok rfl rfl) (fun t => setE_cons _ _ _ _) rfl rfl) ?_
    refine WL_cons hC.fn (.no (s1 := ⟨_, (8, .tu []) :: _, _⟩) rfl rfl (by decide) rfl (by decide) (dst_ok rfl rfl) (fun t => setE_cons _ _ _ _) rfl rfl) ?_
    refine WL_cons hC.fn (.no (s1 := ⟨_, (9, .tu []) :: _, _⟩) rfl rfl (by decide) rfl (by decide) (dst_ok rfl rfl) (fun t => setE_cons _ _ _ _) rfl rfl) ?_
    refine wp rfl hC t_2z ?_
    refine wp rfl hC t_1 ?_
    refine WL_cons hC.fn (.no (s1 := ⟨_, (12, .tu []) :: _, _⟩) rfl rfl (by decide) rfl (by decide) (dst_ok rfl rfl) (fun t => setE_cons _ _ _ _) rfl rfl) ?_
    refine WL_cons hC.fn (.no (s1 := ⟨_, (13, .tu []) :: _, _⟩) rfl rfl (by decide) rfl (by decide) (dst_ok rfl rfl) (fun t => setE_cons _ _ _ _) rfl rfl) ?_
    refine WL_cons hC.fn (.no (s1 := ⟨_, (14, .tu []) :: _, _⟩) rfl rfl (by decide) rfl (by decide) (dst_ok rfl rfl) (fun t => setE_cons _ _ _ _) rfl rfl) ?_
    refine wp rfl hC t_2z ?_
    refine wp rfl hC t_1 ?_
    refine WL_cons hC.fn (.no (s1 := ⟨_, (17, .tu []) :: _, _⟩) rfl rfl (by decide) rfl (by decide) (dst_ok rfl rfl) (fun t => setE_cons _ _ _ _) rfl rfl) ?_
    refine WL_cons hC.fn (.no (s1 := ⟨_, (18, .tu []) :: _, _⟩) rfl rfl (by decide) rfl (by decide) (dst_ok rfl rfl) (fun t => setE_cons _ _ _ _) rfl rfl) ?_
    refine WL_cons hC.fn (.no (s1 := ⟨_, (19, .tu []) :: _, _⟩) rfl rfl (by decide) rfl (by decide) (dst_ok rfl rfl) (fun t => setE_cons _ _ _ _) rfl rfl) ?_
    refine wp rfl hC t_2z ?_
    refine wp rfl hC t_1 ?_
    refine WL_cons hC.fn (.no (s1 := ⟨_, (22, .tu []) :: _, _⟩) rfl rfl (by decide) rfl (by decide) (dst_ok rfl rfl) (fun t => setE_cons _ _ _ _) rfl rfl) ?_
    refine WL_cons hC.fn (.no (s1 := ⟨_, (23, .tu []) :: _, _⟩) rfl rfl (by decide) rfl (by decide) (dst_ok rfl rfl) (fun t => setE_cons _ _ _ _) rfl rfl) ?_
    refine WL_cons hC.fn (.no (s1 := ⟨_, (24, .tu []) :: _, _⟩) rfl rfl (by decide) rfl (by decide) (dst_ok rfl rfl) (fun t => setE_cons _ _ _ _) rfl rfl) ?_
    refine wp rfl hC t_2z ?_
    refine wp rfl hC t_1 ?_
    refine WL_cons hC.fn (.no (s1 := ⟨_, (27, .tu []) :: _, _⟩) rfl rfl (by decide) rfl (by decide) (dst_ok rfl rfl) (fun t => setE_cons _ _ _ _) rfl rfl) ?_
    refine WL_cons hC.fn (.no (s1 := ⟨_, (28, .tu []) :: _, _⟩) rfl rfl (by decide) rfl (by decide) (dst_ok rfl rfl) (fun t => setE_cons _ _ _ _) rfl rfl) ?_
    refine WL_cons hC.fn (.no (s1 := ⟨_, (29, .tu []) :: _, _⟩) rfl rfl (by decide) rfl (by decide) (dst_ok rfl rfl) (fun t => setE_cons _ _ _ _) rfl rfl) ?_
    refine wp rfl hC t_2z ?_
    refine wp rfl hC t_1 ?_
    refine WL_cons hC.fn (.no (s1 := ⟨_, (32, .tu []) :: _, _⟩) rfl rfl (by decide) rfl (by decide) (dst_ok rfl rfl) (fun t => setE_cons _ _ _ _) rfl rfl) ?_
    refine WL_cons hC.fn (.no (s1 := ⟨_, (33, .tu []) :: _, _⟩) rfl rfl (by decide) rfl (by decide) (dst_ok rfl rfl) (fun t => setE_cons _ _ _ _) rfl rfl) ?_
    refine WL_cons hC.fn (.no (s1 := ⟨_, (34, .tu []) :: _, _⟩) rfl rfl (by decide) rfl (by decide) (dst_ok rfl rfl) (fun t => setE_cons _ _ _ _) rfl rfl) ?_
    refine WL_cons hC.fn (.no (s1 := ⟨_, (35, .tu []) :: _, _⟩) rfl rfl (by decide) rfl (by decide) (dst_ok rfl rfl) (fun t => setE_cons _ _ _ _) rfl rfl) ?_
    refine wp rfl hC t_2z ?_
    refine wp rfl hC t_4 ?_
    refine WL_nil ?_
    refine W_ret ?_
    exact fin0 (.cons (.tmp rfl) .nil) rfl trivial
  ·
    refine W_region ?_
    refine wp rfl hC t_3x ?_
    refine wp rfl hC t_3c ?_
    refine wp rfl hC t_3b ?_
    refine wp rfl hC t_1 ?_
    refine WL_cons hC.fn t_78 ?_
    refine WL_cons hC.fn t_6s ?_
    refine WL_cons hC.fn t_6k ?_
    refine wp rfl hC t_2z ?_
    refine wp rfl hC t_1 ?_
    refine WL_cons hC.fn (.no (s1 := ⟨_, (12, .tu []) :: _, _⟩) rfl rfl (by decide) rfl (by decide) (dst_ok rfl rfl) (fun t => setE_cons _ _ _ _) rfl rfl) ?_
    refine WL_cons hC.fn (.no (s1 := ⟨_, (13, .tu []) :: _, _⟩) rfl rfl (by decide) rfl (by decide) (dst_ok rfl rfl) (fun t => setE_cons _ _ _ _) rfl rfl) ?_
    refine WL_cons hC.fn (.no (s1 := ⟨_, (14, .tu []) :: _, _⟩) rfl rfl (by decide) rfl (by decide) (dst_ok rfl rfl) (fun t => setE_cons _ _ _ _) rfl rfl) ?_
    refine wp rfl hC t_2z ?_
    refine wp rfl hC t_1 ?_
    refine WL_cons hC.fn (.no (s1 := ⟨_, (17, .tu []) :: _, _⟩) rfl rfl (by decide) rfl (by decide) (dst_ok rfl rfl) (fun t => setE_cons _ _ _ _) rfl rfl) ?_
    refine WL_cons hC.fn (.no (s1 := ⟨_, (18, .tu []) :: _, _⟩) rfl rfl (by decide) rfl (by decide) (dst_ok rfl rfl) (fun t => setE_cons _ _ _ _) rfl rfl) ?_
    refine WL_cons hC.fn (.no (s1 := ⟨_, (19, .tu []) :: _, _⟩) rfl rfl (by decide) rfl (by decide) (dst_ok rfl rfl) (fun t => setE_cons _ _ _ _) rfl rfl) ?_
    refine wp rfl hC t_2z ?_
    refine wp rfl hC t_1 ?_
    refine WL_cons hC.fn (.no (s1 := ⟨_, (22, .tu []) :: _, _⟩) rfl rfl (by decide) rfl (by decide) (dst_ok rfl rfl) (fun t => setE_cons _ _ _ _) rfl rfl) ?_
    refine WL_cons hC.fn (.no (s1 := ⟨_, (23, .tu []) :: _, _⟩) rfl rfl (by decide) rfl (by decide) (dst_ok rfl rfl) (fun t => setE_cons _ _ _ _) rfl rfl) ?_
    refine WL_cons hC.fn (.no (s1 := ⟨_, (24, .tu []) :: _, _⟩) rfl rfl (by decide) rfl (by decide) (dst_ok rfl rfl) (fun t => setE_cons _ _ _ _) rfl rfl) ?_
    refine wp rfl hC t_2z ?_
    refine wp rfl hC t_1 ?_
    refine WL_cons hC.fn (.no (s1 := ⟨_, (27, .tu []) :: _, _⟩) rfl rfl (by decide) rfl (by decide) (dst_ok rfl rfl) (fun t => setE_cons _ _ _ _) rfl rfl) ?_
    refine WL_cons hC.fn (.no (s1 := ⟨_, (28, .tu []) :: _, _⟩) rfl rfl (by decide) rfl (by decide) (dst_ok rfl rfl) (fun t => setE_cons _ _ _ _) rfl rfl) ?_
    refine WL_cons hC.fn (.no (s1 := ⟨_, (29, .tu []) :: _, _⟩) rfl rfl (by decide) rfl (by decide) (dst_ok rfl rfl) (fun t => setE_cons _ _ _ _) rfl rfl) ?_
    refine wp rfl hC t_2z ?_
    refine wp rfl hC t_1 ?_
    refine WL_cons hC.fn (.no (s1 := ⟨_, (32, .tu []) :: _, _⟩) rfl rfl (by decide) rfl (by decide) (dst_ok rfl rfl) (fun t => setE_cons _ _ _ _) rfl rfl) ?_
    refine WL_cons hC.fn (.no (s1 := ⟨_, (33, .tu []) :: _, _⟩) rfl rfl (by decide) rfl (by decide) (dst_ok rfl rfl) (fun t => setE_cons _ _ _ _) rfl rfl) ?_
    refine WL_cons hC.fn (.no (s1 := ⟨_, (34, .tu []) :: _, _⟩) rfl rfl (by decide) rfl (by decide) (dst_ok rfl rfl) (fun t => setE_cons _ _ _ _) rfl rfl) ?_
    refine WL_cons hC.fn (.no (s1 := ⟨_, (35, .tu []) :: _, _⟩) rfl rfl (by decide) rfl (by decide) (dst_ok rfl rfl) (fun t => setE_cons _ _ _ _) rfl rfl) ?_
    refine wp rfl hC t_2z ?_
    refine wp rfl hC t_4 ?_
    refine WL_nil ?_
    refine W_ret ?_
    exact fin0 (.cons (.tmp rfl) .nil) rfl trivial
  ·
    refine W_region ?_
    refine wp rfl hC t_3x ?_
    refine wp rfl hC t_3c ?_
    refine wp rfl hC t_3b ?_
    refine wp rfl hC t_1 ?_
    refine WL_cons hC.fn t_78 ?_
    refine WL_cons hC.fn t_6s ?_
    refine WL_cons hC.fn t_6i ?_
    refine wp rfl hC t_2z ?_
    refine wp rfl hC t_1 ?_
    refine WL_cons hC.fn t_6x ?_
    refine WL_cons hC.fn t_6n ?_
    refine WL_cons hC.fn t_6k ?_
    refine wp rfl hC t_2z ?_
    refine wp rfl hC t_1 ?_
    refine WL_cons hC.fn (.no (s1 := ⟨_, (17, .tu []) :: _, _⟩) rfl rfl (by decide) rfl (by decide) (dst_ok rfl rfl) (fun t => setE_cons _ _ _ _) rfl rfl) ?_
    refine WL_cons hC.fn (.no (s1 := ⟨_, (18, .tu []) :: _, _⟩) rfl rfl (by decide) rfl (by decide) (dst_ok rfl rfl) (fun t => setE_cons _ _ _ _) rfl rfl) ?_
    refine WL_cons hC.fn (.no (s1 := ⟨_, (19, .tu []) :: _, _⟩) rfl rfl (by decide) rfl (by decide) (dst_ok rfl rfl) (fun t => setE_cons _ _ _ _) rfl rfl) ?_
    refine wp rfl hC t_2z ?_
    refine wp rfl hC t_1 ?_
    refine WL_cons hC.fn (.no (s1 := ⟨_, (22, .tu []) :: _, _⟩) rfl rfl (by decide) rfl (by decide) (dst_ok rfl rfl) (fun t => setE_cons _ _ _ _) rfl rfl) ?_
    refine WL_cons hC.fn (.no (s1 := ⟨_, (23, .tu []) :: _, _⟩) rfl rfl (by decide) rfl (by decide) (dst_ok rfl rfl) (fun t => setE_cons _ _ _ _) rfl rfl) ?_
    refine WL_cons hC.fn (.no (s1 := ⟨_, (24, .tu []) :: _, _⟩) rfl rfl (by decide) rfl (by decide) (dst_ok rfl rfl) (fun t => setE_cons _ _ _ _) rfl rfl) ?_
    refine wp rfl hC t_2z ?_
    refine wp rfl hC t_1 ?_
    refine WL_cons hC.fn (.no (s1 := ⟨_, (27, .tu []) :: _, _⟩) rfl rfl (by decide) rfl (by decide) (dst_ok rfl rfl) (fun t => setE_cons _ _ _ _) rfl rfl) ?_
    refine WL_cons hC.fn (.no (s1 := ⟨_, (28, .tu []) :: _, _⟩) rfl rfl (by decide) rfl (by decide) (dst_ok rfl rfl) (fun t => setE_cons _ _ _ _) rfl rfl) ?_
    refine WL_cons hC.fn (.no (s1 := ⟨_, (29, .tu []) :: _, _⟩) rfl rfl (by decide) rfl (by decide) (dst_ok rfl rfl) (fun t => setE_cons _ _ _ _) rfl rfl) ?_
    refine wp rfl hC t_2z ?_
    refine wp rfl hC t_1 ?_
    refine WL_cons hC.fn (.no (s1 := ⟨_, (32, .tu []) :: _, _⟩) rfl rfl (by decide) rfl (by decide) (dst_ok rfl rfl) (fun t => setE_cons _ _ _ _) rfl rfl) ?_
    refine WL_cons hC.fn (.no (s1 := ⟨_, (33, .tu []) :: _, _⟩) rfl rfl (by decide) rfl (by decide) (dst_ok rfl rfl) (fun t => setE_cons _ _ _ _) rfl rfl) ?_
    refine WL_cons hC.fn (.no (s1 := ⟨_, (34, .tu []) :: _, _⟩) rfl rfl (by decide) rfl (by decide) (dst_ok rfl rfl) (fun t => setE_cons _ _ _ _) rfl rfl) ?_
    refine WL_cons hC.fn (.no (s1 := ⟨_, (35, .tu []) :: _, _⟩) rfl rfl (by decide) rfl (by decide) (dst_ok rfl rfl) (fun t => setE_cons _ _ _ _) rfl rfl) ?_
    refine wp rfl hC t_2z ?_
    refine wp rfl hC t_4 ?_
    refine WL_nil ?_
    refine W_ret ?_
    exact fin0 (.cons (.tmp rfl) .nil) rfl trivial
  ·
    refine W_region ?_
    refine wp rfl hC t_3x ?_
    refine wp rfl hC t_3c ?_
    refine wp rfl hC t_3b ?_
    refine wp rfl hC t_1 ?_
    refine WL_cons hC.fn t_78 ?_
    refine WL_cons hC.fn t_6s ?_
    refine WL_cons hC.fn t_6i ?_
    refine wp rfl hC t_2z ?_
    refine wp rfl hC t_1 ?_
    refine WL_cons hC.fn t_6x ?_
    refine WL_cons hC.fn t_6n ?_
    refine WL_cons hC.fn t_6i ?_
    refine wp rfl hC t_2z ?_
    refine wp rfl hC t_1 ?_
    refine WL_cons hC.fn t_6x ?_
    refine WL_cons hC.fn t_6n ?_
    refine WL_cons hC.fn t_6k ?_
    refine wp rfl hC t_2z ?_
    refine wp rfl hC t_1 ?_
    refine WL_cons hC.fn (.no (s1 := ⟨_, (22, .tu []) :: _, _⟩) rfl rfl (by decide) rfl (by decide) (dst_ok rfl rfl) (fun t => setE_cons _ _ _ _) rfl rfl) ?_
    refine WL_cons hC.fn (.no (s1 := ⟨_, (23, .tu []) :: _, _⟩) rfl rfl (by decide) rfl (by decide) (dst_ok rfl rfl) (fun t => setE_cons _ _ _ _) rfl rfl) ?_
    refine WL_cons hC.fn (.no (s1 := ⟨_, (24, .tu []) :: _, _⟩) rfl rfl (by decide) rfl (by decide) (dst_ok rfl rfl) (fun t => setE_cons _ _ _ _) rfl rfl) ?_
    refine wp rfl hC t_2z ?_
    refine wp rfl hC t_1 ?_
    refine WL_cons hC.fn (.no (s1 := ⟨_, (27, .tu []) :: _, _⟩) rfl rfl (by decide) rfl (by decide) (dst_ok rfl rfl) (fun t => setE_cons _ _ _ _) rfl rfl) ?_
    refine WL_cons hC.fn (.no (s1 := ⟨_, (28, .tu []) :: _, _⟩) rfl rfl (by decide) rfl (by decide) (dst_ok rfl rfl) (fun t => setE_cons _ _ _ _) rfl rfl) ?_
    refine WL_cons hC.fn (.no (s1 := ⟨_, (29, .tu []) :: _, _⟩) rfl rfl (by decide) rfl (by decide) (dst_ok rfl rfl) (fun t => setE_cons _ _ _ _) rfl rfl) ?_
    refine wp rfl hC t_2z ?_
    refine wp rfl hC t_1 ?_
    refine WL_cons hC.fn (.no (s1 := ⟨_, (32, .tu []) :: _, _⟩) rfl rfl (by decide) rfl (by decide) (dst_ok rfl rfl) (fun t => setE_cons _ _ _ _) rfl rfl) ?_
    refine WL_cons hC.fn (.no (s1 := ⟨_, (33, .tu []) :: _, _⟩) rfl rfl (by decide) rfl (by decide) (dst_ok rfl rfl) (fun t => setE_cons _ _ _ _) rfl rfl) ?_
    refine WL_cons hC.fn (.no (s1 := ⟨_, (34, .tu []) :: _, _⟩) rfl rfl (by decide) rfl (by decide) (dst_ok rfl rfl) (fun t => setE_cons _ _ _ _) rfl rfl) ?_
    refine WL_cons hC.fn (.no (s1 := ⟨_, (35, .tu []) :: _, _⟩) rfl rfl (by decide) rfl (by decide) (dst_ok rfl rfl) (fun t => setE_cons _ _ _ _) rfl rfl) ?_
    refine wp rfl hC t_2z ?_
    refine wp rfl hC t_4 ?_
    refine WL_nil ?_
    refine W_ret ?_
    exact fin0 (.cons (.tmp rfl) .nil) rfl trivial
  ·
    refine W_region ?_
    refine wp rfl hC t_3x ?_
    refine wp rfl hC t_3c ?_
    refine wp rfl hC t_3b ?_
    refine wp rfl hC t_1 ?_
    refine WL_cons hC.fn t_78 ?_
    refine WL_cons hC.fn t_6s ?_
    refine WL_cons hC.fn t_6i ?_
    refine wp rfl hC t_2z ?_
    refine wp rfl hC t_1 ?_
    refine WL_cons hC.fn t_6x ?_
    refine WL_cons hC.fn t_6n ?_
    refine WL_cons hC.fn t_6i ?_
    refine wp rfl hC t_2z ?_
    refine wp rfl hC t_1 ?_
    refine WL_cons hC.fn t_6x ?_
    refine WL_cons hC.fn t_6n ?_
    refine WL_cons hC.fn t_6i ?_
    refine wp rfl hC t_2z ?_
    refine wp rfl hC t_1 ?_
    refine WL_cons hC.fn t_79 ?_
    refine WL_cons hC.fn t_6r ?_
    refine WL_cons hC.fn t_6k ?_
    refine wp rfl hC t_2z ?_
    refine wp rfl hC t_1 ?_
    refine WL_cons hC.fn (.no (s1 := ⟨_, (27, .tu []) :: _, _⟩) rfl rfl (by decide) rfl (by decide) (dst_ok rfl rfl) (fun t => setE_cons _ _ _ _) rfl rfl) ?_
    refine WL_cons hC.fn (.no (s1 := ⟨_, (28, .tu []) :: _, _⟩) rfl rfl (by decide) rfl (by decide) (dst_ok rfl rfl) (fun t => setE_cons _ _ _ _) rfl rfl) ?_
    refine WL_cons hC.fn (.no (s1 := ⟨_, (29, .tu []) :: _, _⟩) rfl rfl (by decide) rfl (by decide) (dst_ok rfl rfl) (fun t => setE_cons _ _ _ _) rfl rfl) ?_
    refine wp rfl hC t_2z ?_
    refine wp rfl hC t_1 ?_
    refine WL_cons hC.fn (.no (s1 := ⟨_, (32, .tu []) :: _, _⟩) rfl rfl (by decide) rfl (by decide) (dst_ok rfl rfl) (fun t => setE_cons _ _ _ _) rfl rfl) ?_
    refine WL_cons hC.fn (.no (s1 := ⟨_, (33, .tu []) :: _, _⟩) rfl rfl (by decide) rfl (by decide) (dst_ok rfl rfl) (fun t => setE_cons _ _ _ _) rfl rfl) ?_
    refine WL_cons hC.fn (.no (s1 := ⟨_, (34, .tu []) :: _, _⟩) rfl rfl (by decide) rfl (by decide) (dst_ok rfl rfl) (fun t => setE_cons _ _ _ _) rfl rfl) ?_
    refine WL_cons hC.fn (.no (s1 := ⟨_, (35, .tu []) :: _, _⟩) rfl rfl (by decide) rfl (by decide) (dst_ok rfl rfl) (fun t => setE_cons _ _ _ _) rfl rfl) ?_
    refine wp rfl hC t_2z ?_
    refine wp rfl hC t_4 ?_
    refine WL_nil ?_
    refine W_ret ?_
    exact fin0 (.cons (.tmp rfl) .nil) rfl trivial
  ·
    refine W_region ?_
    refine wp rfl hC t_3x ?_
    refine wp rfl hC t_3c ?_
    refine wp rfl hC t_3b ?_
    refine wp rfl hC t_1 ?_
    refine WL_cons hC.fn t_78 ?_
    refine WL_cons hC.fn t_6s ?_
    refine WL_cons hC.fn t_6i ?_
    refine wp rfl hC t_2z ?_
    refine wp rfl hC t_1 ?_
    refine WL_cons hC.fn t_6x ?_
    refine WL_cons hC.fn t_6n ?_
    refine WL_cons hC.fn t_6i ?_
    refine wp rfl hC t_2z ?_
    refine wp rfl hC t_1 ?_
    refine WL_cons hC.fn t_6x ?_
    refine WL_cons hC.fn t_6n ?_
    refine WL_cons hC.fn t_6i ?_
    refine wp rfl hC t_2z ?_
    refine wp rfl hC t_1 ?_
    refine WL_cons hC.fn t_79 ?_
    refine WL_cons hC.fn t_6r ?_
    refine WL_cons hC.fn t_6i ?_
    refine wp rfl hC t_2z ?_
    refine wp rfl hC t_1 ?_
    refine WL_cons hC.fn t_79 ?_
    refine WL_cons hC.fn t_6r ?_
    refine WL_cons hC.fn t_6k ?_
    refine wp rfl hC t_2z ?_
    refine wp rfl hC t_1 ?_
    refine WL_cons hC.fn (.no (s1 := ⟨_, (32, .tu []) :: _, _⟩) rfl rfl (by decide) rfl (by decide) (dst_ok rfl rfl) (fun t => setE_cons _ _ _ _) rfl rfl) ?_
    refine WL_cons hC.fn (.no (s1 := ⟨_, (33, .tu []) :: _, _⟩) rfl rfl (by decide) rfl (by decide) (dst_ok rfl rfl) (fun t => setE_cons _ _ _ _) rfl rfl) ?_
    refine WL_cons hC.fn (.no (s1 := ⟨_, (34, .tu []) :: _, _⟩) rfl rfl (by decide) rfl (by decide) (dst_ok rfl rfl) (fun t => setE_cons _ _ _ _) rfl rfl) ?_
    refine WL_cons hC.fn (.no (s1 := ⟨_, (35, .tu []) :: _, _⟩) rfl rfl (by decide) rfl (by decide) (dst_ok rfl rfl) (fun t => setE_cons _ _ _ _) rfl rfl) ?_
    refine wp rfl hC t_2z ?_
    refine wp rfl hC t_4 ?_
    refine WL_nil ?_
    refine W_ret ?_
    exact fin0 (.cons (.tmp rfl) .nil) rfl trivial
  ·
    refine W_region ?_
    refine wp rfl hC t_3x ?_
    refine wp rfl hC t_3c ?_
    refine wp rfl hC t_3b ?_
    refine wp rfl hC t_1 ?_
    refine WL_cons hC.fn t_78 ?_
    refine WL_cons hC.fn t_6s ?_
    refine WL_cons hC.fn t_6i ?_
    refine wp rfl hC t_2z ?_
    refine wp rfl hC t_1 ?_
    refine WL_cons hC.fn t_6x ?_
    refine WL_cons hC.fn t_6n ?_
    refine WL_cons hC.fn t_6i ?_
    refine wp rfl hC t_2z ?_
    refine wp rfl hC t_1 ?_
    refine WL_cons hC.fn t_6x ?_
    refine WL_cons hC.fn t_6n ?_
    refine WL_cons hC.fn t_6i ?_
    refine wp rfl hC t_2z ?_
    refine wp rfl hC t_1 ?_
    refine WL_cons hC.fn t_79 ?_
    refine WL_cons hC.fn t_6r ?_
    refine WL_cons hC.fn t_6i ?_
    refine wp rfl hC t_2z ?_
    refine wp rfl hC t_1 ?_
    refine WL_cons hC.fn t_79 ?_
    refine WL_cons hC.fn t_6r ?_
    refine WL_cons hC.fn t_6i ?_
    refine wp rfl hC t_2z ?_
    refine wp rfl hC t_1 ?_
    refine WL_cons hC.fn (.yes rfl rfl (by decide) rfl (oc_field hC (.tmp rfl) fld_40_4 (by decide) t_9 rfl rfl)) ?_
    refine WL_cons hC.fn t_6h ?_
    refine WL_cons hC.fn t_6j ?_
    refine WL_cons hC.fn t_6k ?_
    refine wp rfl hC t_2z ?_
    refine wp rfl hC t_4 ?_
    refine WL_nil ?_
    refine W_ret ?_
    exact fin0 (.cons (.tmp rfl) .nil) rfl trivial
set_option maxRecDepth 20000 in
set_option maxHeartbeats 4000000 in
theorem rheader_c (k : Int) (id : List Int) (v n : Int) (b : List Int) (hid : id.length = 16) (bid : B8 id) (bb : B8 b) (hR : RightR k v n b.length) : FnC Tryd.prog 29 [] [.ag (recX k id v n (bodyV b))] [] [(0, .row 5 1 (hdrL k id v n).length (I .u8 (hdrL k id v n)))] (.row 0) := by
  have hRR := hR
  obtain ⟨g1, g2, g3, g4, g5, g6, g7⟩ := hR
  have hlh := length_hdrL (k := k) (id := id) (v := v) (n := n)
  have p1 := length_putV7 v.toNat
  have p2 := length_putV7 n.toNat
  have hd : (hdrL k id v n) = ([84, 65, 80, 69, k] ++ id) ++ putV v.toNat ++ putV n.toNat := by unfold hdrL; rfl
  refine FnC.introR (N0 := 0) (T := 30) (E := [(0, .ag (recX k id v n (bodyV b)))]) Tryd.func29 rfl (by decide) mix rfl rfl rfl (by simp) rfl ⟨t_b, trivial⟩ (by simp) (by
        intro S ha hr hw
        have s0 : S 0 := hw 0 t_17 t_5
        refine ⟨by first | exact inSL_I _ | simp [s0], fun k b hm => ?_⟩
        simp only [List.mem_cons, Prod.mk.injEq, List.not_mem_nil, or_false] at hm
        rcases hm with ⟨rfl, rfl⟩
        · exact ⟨s0, by first | exact inSL_I _ | simp [s0]⟩) (fun F n0 X w ρ hC hro => ?_)
  refine wsr ?_
  refine wp rfl hC t_3s ?_
  refine wp rfl hC t_v ?_
  refine WL_nil ?_
  refine wsr ?_
  refine wp rfl hC t_3x ?_
  refine wp rfl hC t_3c ?_
  refine wp rfl hC (oc_conv hC (.tmp rfl) rfl Tryd.underlying5 (r := k) (u8_conv (by omega)) rfl rfl) ?_
  refine wp rfl hC (ox_litRI (k := .u8) (ws := [84, 65, 80, 69, k]) hC (.cons .cint (.cons .cint (.cons .cint (.cons .cint (.cons (.tmp rfl) .nil))))) Tryd.underlying22 cells_5 zero_5 rfl (by decide) rfl rfl t_5 rfl rfl rfl) ?_
  refine wp rfl hC t_4 ?_
  refine WL_nil ?_
  refine W_seq ?_
  refine wsr ?_
  refine wp rfl hC t_k ?_
  refine WL_nil ?_
  refine W_blk ?_
  refine W_loopW (fun (ζ : Nat) => ⟨2, [(1, .p 0 0), (2, .nils), (3, .row 1), (4, .i .i64 ζ)], [(0, .blk 40 (recX k id v n (bodyV b))), (1, .row 5 1 (5 + ζ) (I .u8 ([84, 65, 80, 69, k] ++ id.take ζ)))]⟩) (fun ζ => ζ ≤ 16) (fun ζ => 16 - ζ) (0) (Nat.zero_le _) (weak (fun k => k) (.cons rfl t_5 t_6 (.cons rfl t_5 trivial (.cons rfl t_5 t_6 (.cons rfl rfl trivial .nil)))) (.cons rfl (ren_recB inS_bodyV) rfl t_0 (.cons rfl (renRow rfl (by rw [List.take_zero, List.append_nil])) rfl t_0 .nil)) rfl rfl rfl) ?_
  intro i hR
  replace hR : i ≤ 16 := hR
  first | show W _ _ _ ⟨2, [(1, .p 0 0), (2, .nils), (3, .row 1), (4, .i .i64 i)], [(0, .blk 40 (recX k id v n (bodyV b))), (1, .row 5 1 (5 + i) (I .u8 ([84, 65, 80, 69, k] ++ id.take i)))]⟩ | skip
  refine W_seq ?_
  refine wsr ?_
  refine wp rfl hC t_1 ?_
  refine wp rfl hC t_11 ?_
  refine WL_nil ?_
  refine W_cond rfl (by decide) (fun hc => ?_) (fun hc => ?_)
  ·
    replace hc := lss_t hc
    
    refine W_skip ?_
    refine W_seq ?_
    refine W_blk ?_
    refine W_region ?_
    refine wp rfl hC t_1 ?_
    refine wp rfl hC t_1 ?_
    refine wp rfl hC (oc_field hC (.tmp rfl) fld_40_1 (by decide) t_9 rfl rfl) ?_
    refine wp rfl hC (ox_indexA hC (j := i) (.tmp rfl) (.tmp rfl) idx_23 t_w (by omega) t_d t_34 rfl rfl) ?_
    refine wp rfl hC (oc_load hC (.tmp rfl) t_3 shp_5 (by exact (unit_rid1 hid (by omega))) rfl rfl) ?_
    refine wp rfl hC t_3v ?_
    refine wp rfl hC t_6o ?_
    refine wp rfl hC t_4 ?_
    refine WL_nil ?_
    refine W_region ?_
    refine wp rfl hC t_1 ?_
    refine wp rfl hC t_36 ?_
    refine wp rfl hC t_4 ?_
    refine WL_nil ?_
    exact ⟨(i + 1), (by omega), (weak (fun k => bif Nat.beq k 1 then 2 else k) (.cons rfl t_5 t_6 (.cons rfl t_5 trivial (.cons rfl t_5 t_6 (.cons rfl t_2y trivial .nil)))) (.cons rfl (ren_recB inS_bodyV) rfl t_0 (.cons rfl (renRow (by omega) (by rw [List.append_assoc, List.take_succ_eq_append_getElem (by omega), List.getD_eq_getElem?_getD, List.getElem?_eq_getElem (by omega)]; rfl)) rfl t_0 .nil)) rfl rfl rfl), (by omega)⟩
  ·
    replace hc := lss_f hc
    obtain rfl : i = 16 := by omega
    rw [List.take_of_length_le (show id.length ≤ 16 by omega)]
    refine W_exit ?_
    refine wsr ?_
    refine wp rfl hC t_1 ?_
    refine wp rfl hC t_46 ?_
    refine wp rfl hC t_3i ?_
    refine wp rfl hC (oc_callN hC (.cons (.tmp rfl) .nil) (.cons1 (.free t_0) (.same t_0)) (rput_c v.toNat v (.inl ⟨by omega, by omega⟩)) glob_nil t_0 rfl t_q rfl rfl) ?_
    refine wp rfl hC (ox_append hC (.tmp rfl) (.tmp rfl) t_35 t_a t_r Tryd.underlying22 cells_5 bytes_5 zero_5 rfl (by decide) t_1n t_t t_16 (app_I rfl) t_n (by omega) rfl rfl) ?_
    refine wp rfl hC t_4 ?_
    refine WL_nil ?_
    refine wsr ?_
    refine wp rfl hC t_1 ?_
    refine wp rfl hC t_4e ?_
    refine wp rfl hC t_3o ?_
    refine wp rfl hC (oc_callN hC (.cons (.tmp rfl) .nil) (.cons1 (.free t_0) (.same t_0)) (rput_c n.toNat n (.inl ⟨by omega, by omega⟩)) glob_nil t_0 rfl t_q rfl rfl) ?_
    refine wp rfl hC (ox_append (n' := (hdrL k id v n).length) (cs' := I .u8 (hdrL k id v n)) hC (.tmp rfl) (.tmp rfl) t_35 t_a t_r Tryd.underlying22 cells_5 bytes_5 zero_5 rfl (by decide) t_1n t_t (by omega) ((app_I rfl).trans (by rw [hd])) t_n (by omega) rfl rfl) ?_
    refine wp rfl hC t_4 ?_
    refine WL_nil ?_
    refine W_ret ?_
    exact fin1 (.cons (.tmp rfl) .nil) rfl rfl (inSL_I _)
set_option maxRecDepth 20000 in
set_option maxHeartbeats 4000000 in
theorem vkey_c (se : List Int) (bse : B8 se) (hse : se.length ≤ 1000000) (id : List Int) (hid : id.length = 16) (bid : B8 id) : FnC Tryd.prog 9 [(1000000, .rp (I .u32 tbl))] [.vs se.length (I .u8 se), .ag (I .u8 id)] [] [] (.ag (I .u8 (vkey se id))) := by
  have hvl := length_vkey se id
  have hvd : keyS (codeM id se) purS (rnds 32) = (vkey se id) := by unfold vkey; rfl
  refine FnC.introR (N0 := 0) (T := 12) (E := [(0, .vs se.length (I .u8 se)), (1, .ag (I .u8 id)), (1000000, .rp (I .u32 tbl))]) Tryd.func9 rfl (by decide) mix rfl rfl rfl (by simp) rfl ⟨t_b, t_b, trivial⟩ (by simp) t_10 (fun F n0 X w ρ hC hro => ?_)
  refine wsr ?_
  refine wp rfl hC t_3j ?_
  refine wp rfl hC t_22 ?_
  refine WL_nil ?_
  refine wsr ?_
  refine wp rfl hC t_1 ?_
  refine wp rfl hC t_73 ?_
  refine wp rfl hC t_6d ?_
  refine wp rfl hC t_4w ?_
  refine wp rfl hC (oc_callN hC (.cons (.tmp rfl) (.cons (.tmp rfl) (.cons (.tmp rfl) (.cons .cint .nil)))) (.cons1 (.free (inSL_I _)) (.cons1 (.sl1 rfl (by rw [List.drop_zero]; exact take_allI hid) (inSL_I _)) (.cons1 (.row rfl rfl (inSL_I _)) (.same (by simp))))) (key_c se.length 16 11 32 se id purS rfl hid rfl bse bid (by unfold B8 purS; decide) hse (by decide) (by decide) (by decide)) (glob_cons rfl rfl t_0 glob_nil) t_0 rfl t_q rfl rfl) ?_
  rw [hvd]
  refine wp rfl hC (oc_arr hC (.tmp rfl) idx_25 t_4u (by decide) t_2 rfl rfl) ?_
  refine wp rfl hC (oc_load hC (v := .ag (I .u8 (vkey se id))) (.tmp rfl) t_3 shp_25 (by exact (unit_cut (by rw [List.drop_zero]; exact List.take_of_length_le (by omega)) (by omega))) rfl rfl) ?_
  refine wp rfl hC t_62 ?_
  refine WL_nil ?_
  refine W_ret ?_
  exact fin0 (.cons (.cell rfl (.p rfl) shp_25 (unit_all hvl)) .nil) rfl (inSL_I _)
set_option maxRecDepth 20000 in
set_option maxHeartbeats 4000000 in
theorem vnon_c (k n : Int) : FnC Tryd.prog 10 [] [.i .i64 k, .i .i64 n] [] [] (.ag (I .u8 (vnon k n))) := by
  have hnl := length_vnon k n
  have hnd : [k % 256, 0, 0, 0] ++ fixL (n % 18446744073709551616).toNat 8 = (vnon k n) := by unfold vnon; rfl
  refine FnC.introR (N0 := 0) (T := 13) (E := [(0, .i .i64 k), (1, .i .i64 n)]) Tryd.func10 rfl (by decide) mix rfl rfl rfl (by simp) rfl ⟨t_b, t_b, trivial⟩ (by simp) t_10 (fun F n0 X w ρ hC hro => ?_)
  refine wsr ?_
  refine wp rfl hC (ox_alloc hC zero_27 rfl rfl rfl) ?_
  refine WL_nil ?_
  refine wsr ?_
  refine wp rfl hC t_1 ?_
  refine wp rfl hC t_2h ?_
  refine wp rfl hC t_65 ?_
  refine wp rfl hC t_1 ?_
  refine wp rfl hC t_2v ?_
  refine wp rfl hC (oc_callN hC (.cons (.tmp rfl) (.cons (.tmp rfl) (.cons .cint .nil))) (.cons1 t_31 (.cons1 (.free t_0) (.cons1 (.free t_0) (.same t_0)))) (fix_c 4 (n % 18446744073709551616).toNat 8 [k % 256, 0, 0, 0] 8 rfl (by decide) (.inl ⟨rfl, by decide⟩)) glob_nil t_0 rfl t_q rfl rfl) ?_
  rw [hnd]
  refine wp rfl hC (oc_arr hC (.tmp rfl) idx_27 t_4u (by decide) t_2 rfl rfl) ?_
  refine wp rfl hC (oc_load hC (v := .ag (I .u8 (vnon k n))) (.tmp rfl) t_3 shp_27 (by exact (unit_cut (by rw [List.drop_zero]; exact List.take_of_length_le (by omega)) (by omega))) rfl rfl) ?_
  refine wp rfl hC t_61 ?_
  refine WL_nil ?_
  refine W_ret ?_
  exact fin0 (.cons (.cell rfl (.p rfl) shp_27 (unit_all hnl)) .nil) rfl (inSL_I _)
set_option maxRecDepth 20000 in
set_option maxHeartbeats 4000000 in
theorem vmay_t (k : Int) (id : List Int) (v n : Int) (b : List Int) (hid : id.length = 16) (bid : B8 id) (bb : B8 b) (hM : (RightR k v n b.length ∧ k ≠ 1)) : FnC Tryd.prog 24 [] [.ag (recX k id v n (bodyV b))] [] [] (.b true) := by
  refine FnC.introR (N0 := 0) (T := 10) (E := [(0, .ag (recX k id v n (bodyV b)))]) Tryd.func24 rfl (by decide) mix rfl rfl rfl (by simp) rfl ⟨t_b, trivial⟩ (by simp) t_10 (fun F n0 X w ρ hC hro => ?_)
  refine wsr ?_
  refine wp rfl hC t_3s ?_
  refine wp rfl hC t_1d ?_
  refine WL_nil ?_
  refine wsr ?_
  refine wp rfl hC t_3e ?_
  refine wp rfl hC (oc_call hC (.cons (.tmp rfl) .nil) (.cons1 (.free t_0) (.same t_0)) (right_t k id v n b hid bid bb hM.1) glob_nil t_0 t_8 rfl rfl) ?_
  refine wp rfl hC t_1 ?_
  refine WL_cons hC.fn t_72 ?_
  refine WL_cons hC.fn t_6s ?_
  refine WL_cons hC.fn (.yes rfl rfl (by decide) rfl (ox_cmp hC rfl (.tmp rfl) .cint (r := true) (by simp only [cmpI]; exact decide_eq_true hM.2) rfl rfl)) ?_
  refine wp rfl hC t_2z ?_
  refine wp rfl hC t_4 ?_
  refine WL_nil ?_
  refine W_ret ?_
  exact fin0 (.cons (.tmp rfl) .nil) rfl trivial
set_option maxRecDepth 20000 in
set_option maxHeartbeats 4000000 in
theorem vmay_f (k : Int) (id : List Int) (v n : Int) (b : List Int) (hid : id.length = 16) (bid : B8 id) (bb : B8 b) (hM : ¬ (RightR k v n b.length ∧ k ≠ 1)) : FnC Tryd.prog 24 [] [.ag (recX k id v n (bodyV b))] [] [] (.b false) := by
  refine FnC.introR (N0 := 0) (T := 10) (E := [(0, .ag (recX k id v n (bodyV b)))]) Tryd.func24 rfl (by decide) mix rfl rfl rfl (by simp) rfl ⟨t_b, trivial⟩ (by simp) t_10 (fun F n0 X w ρ hC hro => ?_)
  refine wsr ?_
  refine wp rfl hC t_3s ?_
  refine wp rfl hC t_1d ?_
  refine WL_nil ?_
  refine W_seq ?_
  rcases (show ¬ RightR k v n b.length ∨ (RightR k v n b.length ∧ k = 1) from by
    rcases Classical.em (RightR k v n b.length) with c | c
    · exact .inr ⟨c, Classical.byContradiction fun e => hM ⟨c, e⟩⟩
    · exact .inl c) with h_ | ⟨h_, hk⟩
  ·
    refine W_region ?_
    refine wp rfl hC t_3e ?_
    refine wp rfl hC (oc_call hC (.cons (.tmp rfl) .nil) (.cons1 (.free t_0) (.same t_0)) (right_f k id v n b hid bid bb h_) glob_nil t_0 t_8 rfl rfl) ?_
    refine wp rfl hC t_1 ?_
    refine WL_cons hC.fn (.no (s1 := ⟨_, (6, .tu []) :: _, _⟩) rfl rfl (by decide) rfl (by decide) (dst_ok rfl rfl) (fun t => setE_cons _ _ _ _) rfl rfl) ?_
    refine WL_cons hC.fn (.no (s1 := ⟨_, (7, .tu []) :: _, _⟩) rfl rfl (by decide) rfl (by decide) (dst_ok rfl rfl) (fun t => setE_cons _ _ _ _) rfl rfl) ?_
    refine WL_cons hC.fn (.no (s1 := ⟨_, (8, .tu []) :: _, _⟩) rfl rfl (by decide) rfl (by decide) (dst_ok rfl rfl) (fun t => setE_cons _ _ _ _) rfl rfl) ?_
    refine wp rfl hC t_2z ?_
    refine wp rfl hC t_4 ?_
    refine WL_nil ?_
    refine W_ret ?_
    exact fin0 (.cons (.tmp rfl) .nil) rfl trivial
  ·
    refine W_region ?_
    refine wp rfl hC t_3e ?_
    refine wp rfl hC (oc_call hC (.cons (.tmp rfl) .nil) (.cons1 (.free t_0) (.same t_0)) (right_t k id v n b hid bid bb h_) glob_nil t_0 t_8 rfl rfl) ?_
    refine wp rfl hC t_1 ?_
    refine WL_cons hC.fn t_72 ?_
    refine WL_cons hC.fn t_6s ?_
    refine WL_cons hC.fn t_6k ?_
    refine wp rfl hC t_2z ?_
    refine wp rfl hC t_4 ?_
    refine WL_nil ?_
    refine W_ret ?_
    exact fin0 (.cons (.tmp rfl) .nil) rfl trivial
set_option maxRecDepth 20000 in
set_option maxHeartbeats 4000000 in
theorem vcloseno_c (se : List Int) (bse : B8 se) (hse : se.length ≤ 1000000) (k : Int) (id : List Int) (v n : Int) (b : List Int) (hid : id.length = 16) (bid : B8 id) (bb : B8 b) (hM : ¬ (RightR k v n b.length ∧ k ≠ 1)) : FnC Tryd.prog 13 [(1000000, .rp (I .u32 tbl))] [.vs se.length (I .u8 se), .ag (recX k id v n (bodyV b))] [] [] (.tu [.ag (recX 0 (List.replicate 16 0) 0 0 .nils), .i .i64 1]) := by
  refine FnC.introR (N0 := 0) (T := 34) (E := [(0, .vs se.length (I .u8 se)), (1, .ag (recX k id v n (bodyV b))), (1000000, .rp (I .u32 tbl))]) Tryd.func13 rfl (by decide) mix rfl rfl rfl (by simp) rfl ⟨t_b, t_b, trivial⟩ (by simp) t_10 (fun F n0 X w ρ hC hro => ?_)
  refine wsr ?_
  refine wp rfl hC t_3s ?_
  refine wp rfl hC t_3h ?_
  refine wp rfl hC t_k ?_
  refine WL_nil ?_
  refine W_seq ?_
  refine W_blk ?_
  refine wsr ?_
  refine wp rfl hC t_3e ?_
  refine wp rfl hC (oc_call hC (.cons (.tmp rfl) .nil) (.cons1 (.free t_0) (.same t_0)) (vmay_f k id v n b hid bid bb hM) glob_nil t_0 t_8 rfl rfl) ?_
  refine wp rfl hC t_1m ?_
  refine wp rfl hC t_4 ?_
  refine WL_nil ?_
  refine W_cond rfl (by decide) (fun _ => ?_) (fun hc => by cases hc)
  refine wsr ?_
  refine wp rfl hC t_4q ?_
  refine wp rfl hC t_44 ?_
  refine wp rfl hC t_k ?_
  refine WL_nil ?_
  refine W_ret ?_
  exact fin0 (.cons (.cell rfl (.p rfl) shp_33 (unit_rall (by first | rfl | exact hid))) (.cons (.tmp rfl) .nil)) rfl (by simp)
set_option maxRecDepth 20000 in
set_option maxHeartbeats 4000000 in
theorem vcloselong_c (se : List Int) (bse : B8 se) (hse : se.length ≤ 1000000) (k : Int) (id : List Int) (v n : Int) (b : List Int) (hid : id.length = 16) (bid : B8 id) (bb : B8 b) (hM : (RightR k v n b.length ∧ k ≠ 1)) (hb1 : b.length ≤ 262144) (hl : 262144 < b.length + 16) : FnC Tryd.prog 13 [(1000000, .rp (I .u32 tbl))] [.vs se.length (I .u8 se), .ag (recX k id v n (bodyV b))] [] [] (.tu [.ag (recX 0 (List.replicate 16 0) 0 0 .nils), .i .i64 7]) := by
  refine FnC.introR (N0 := 0) (T := 34) (E := [(0, .vs se.length (I .u8 se)), (1, .ag (recX k id v n (bodyV b))), (1000000, .rp (I .u32 tbl))]) Tryd.func13 rfl (by decide) mix rfl rfl rfl (by simp) rfl ⟨t_b, t_b, trivial⟩ (by simp) t_10 (fun F n0 X w ρ hC hro => ?_)
  refine wsr ?_
  refine wp rfl hC t_3s ?_
  refine wp rfl hC t_3h ?_
  refine wp rfl hC t_k ?_
  refine WL_nil ?_
  refine W_seq ?_
  refine W_blk ?_
  refine wsr ?_
  refine wp rfl hC t_3e ?_
  refine wp rfl hC (oc_call hC (.cons (.tmp rfl) .nil) (.cons1 (.free t_0) (.same t_0)) (vmay_t k id v n b hid bid bb hM) glob_nil t_0 t_8 rfl rfl) ?_
  refine wp rfl hC t_1m ?_
  refine wp rfl hC t_4 ?_
  refine WL_nil ?_
  refine W_cond rfl (by decide) (fun hc => by cases hc) (fun _ => ?_)
  refine wsr ?_
  refine wp rfl hC t_38 ?_
  refine wp rfl hC t_3a ?_
  refine wp rfl hC t_32 ?_
  refine wp rfl hC t_2b ?_
  refine wp rfl hC t_3b ?_
  refine wp rfl hC t_4 ?_
  refine WL_nil ?_
  refine W_cond rfl (by decide) (fun _ => ?_) (fun hc => by cases hc)
  refine wsr ?_
  refine wp rfl hC t_4q ?_
  refine wp rfl hC t_44 ?_
  refine wp rfl hC t_k ?_
  refine WL_nil ?_
  refine W_ret ?_
  exact fin0 (.cons (.cell rfl (.p rfl) shp_33 (unit_rall (by first | rfl | exact hid))) (.cons (.tmp rfl) .nil)) rfl (by simp)
set_option maxRecDepth 20000 in
set_option maxHeartbeats 4000000 in
theorem vclose_c (se : List Int) (bse : B8 se) (hse : se.length ≤ 1000000) (k : Int) (id : List Int) (v n : Int) (b : List Int) (hid : id.length = 16) (bid : B8 id) (bb : B8 b) (hM : (RightR k v n b.length ∧ k ≠ 1)) (hl : b.length + 16 ≤ 262144) : FnC Tryd.prog 13 [(1000000, .rp (I .u32 tbl))] [.vs se.length (I .u8 se), .ag (recX k id v n (bodyV b))] [] [] (.tu [.ag (recX k id v n (bodyV (vseal se k id v n b))), .i .i64 0]) := by
  have bh := B8_hdrL hM.1 bid
  have hhl := hdr_le k v n hid
  have hvs : sealM (vkey se id) (vnon k n) (hdrL k id v n) b = (vseal se k id v n b) := by unfold vseal; rfl
  have hsl := length_vseal se id b k v n
  refine FnC.introR (N0 := 0) (T := 34) (E := [(0, .vs se.length (I .u8 se)), (1, .ag (recX k id v n (bodyV b))), (1000000, .rp (I .u32 tbl))]) Tryd.func13 rfl (by decide) mix rfl rfl rfl (by simp) rfl ⟨t_b, t_b, trivial⟩ (by simp) t_10 (fun F n0 X w ρ hC hro => ?_)
  refine wsr ?_
  refine wp rfl hC t_3s ?_
  refine wp rfl hC t_3h ?_
  refine wp rfl hC t_k ?_
  refine WL_nil ?_
  refine W_seq ?_
  refine W_blk ?_
  refine wsr ?_
  refine wp rfl hC t_3e ?_
  refine wp rfl hC (oc_call hC (.cons (.tmp rfl) .nil) (.cons1 (.free t_0) (.same t_0)) (vmay_t k id v n b hid bid bb hM) glob_nil t_0 t_8 rfl rfl) ?_
  refine wp rfl hC t_1m ?_
  refine wp rfl hC t_4 ?_
  refine WL_nil ?_
  refine W_cond rfl (by decide) (fun hc => by cases hc) (fun _ => ?_)
  refine wsr ?_
  refine wp rfl hC t_38 ?_
  refine wp rfl hC t_3a ?_
  refine wp rfl hC t_32 ?_
  refine wp rfl hC t_2b ?_
  refine wp rfl hC t_37 ?_
  refine wp rfl hC t_4 ?_
  refine WL_nil ?_
  refine W_cond rfl (by decide) (fun hc => by cases hc) (fun _ => ?_)
  refine W_skip ?_
  refine W_seq ?_
  refine W_drawD hC ?_
  refine WD_cons (.plain rfl t_1) ?_
  refine WD_cons (.plain rfl t_3q) ?_
  refine WD_cons (.plain rfl t_3y) ?_
  refine WD_cons (.plain rfl t_7x) ?_
  refine WD_cons (.plain rfl t_3g) ?_
  refine WD_cons (.plain rfl t_3c) ?_
  refine WD_cons (.plain rfl t_3t) ?_
  refine WD_cons (.plain rfl t_3o) ?_
  refine WD_cons (.plain rfl t_5e) ?_
  refine WD_cons (.plain rfl t_3e) ?_
  refine WD_cons (.plain rfl t_5v) ?_
  refine WD_cons (.plain rfl t_38) ?_
  refine WD_cons (.plain rfl t_3a) ?_
  refine WD_cons (.plain rfl (oc_callN hC (.cons (.tmp rfl) (.cons (.tmp rfl) (.cons (.tmp rfl) (.cons (.tmp rfl) .nil)))) (.cons1 (.free t_0) (.cons1 (.free t_0) (.cons1 t_31 (.cons1 t_31 (.same t_0))))) (seal_c (vkey se id) (vnon k n) (hdrL k id v n) b (length_vkey se id) (length_vnon k n) (B8_vkey se id) (B8_vnon k n) bh bb (by omega) (by omega)) glob_nil t_0 rfl t_q rfl rfl)) ?_
  rw [hvs]
  refine WD_cons (.plain rfl t_38) ?_
  refine WD_cons (.plain rfl (ox_store (bk' := .blk 33 (recX k id v n (.row 3))) hC (.tmp rfl) (.tmp rfl) rfl shp_22 rfl rfl t_2a (put_rz hid) t_f rfl)) ?_
  refine WD_nil t_x ?_
  refine wsr ?_
  refine WL_weak (weak_frzB (j := 0) (i := 19) (us := I .u8 (vseal se k id v n b)) rfl (rec_get hid).2.2.2 rfl t_f t_o (by rw [length_I]; exact fun h => h) (inSL_I _)) ?_
  rw [set_rz hid]
  refine wp rfl hC t_3e ?_
  refine wp rfl hC t_4t ?_
  refine wp rfl hC t_k ?_
  refine WL_nil ?_
  refine W_ret ?_
  exact fin0 (.cons (.cell rfl (.p rfl) shp_33 (unit_rall (by first | rfl | exact hid))) (.cons (.tmp rfl) .nil)) rfl (by simp)
set_option maxRecDepth 20000 in
set_option maxHeartbeats 4000000 in
theorem vopenno_c (se : List Int) (bse : B8 se) (hse : se.length ≤ 1000000) (k : Int) (id : List Int) (v n : Int) (b : List Int) (hid : id.length = 16) (bid : B8 id) (bb : B8 b) (hM : ¬ (RightR k v n b.length ∧ k ≠ 1)) : FnC Tryd.prog 14 [(1000000, .rp (I .u32 tbl))] [.vs se.length (I .u8 se), .ag (recX k id v n (bodyV b))] [] [] (.tu [.nils, .i .i64 1]) := by
  refine FnC.introR (N0 := 0) (T := 25) (E := [(0, .vs se.length (I .u8 se)), (1, .ag (recX k id v n (bodyV b))), (1000000, .rp (I .u32 tbl))]) Tryd.func14 rfl (by decide) mix rfl rfl rfl (by simp) rfl ⟨t_b, t_b, trivial⟩ (by simp) t_10 (fun F n0 X w ρ hC hro => ?_)
  refine wsr ?_
  refine wp rfl hC t_3s ?_
  refine wp rfl hC t_v ?_
  refine wp rfl hC t_k ?_
  refine WL_nil ?_
  refine W_seq ?_
  refine wsr ?_
  refine wp rfl hC t_3e ?_
  refine wp rfl hC (oc_call hC (.cons (.tmp rfl) .nil) (.cons1 (.free t_0) (.same t_0)) (vmay_f k id v n b hid bid bb hM) glob_nil t_0 t_8 rfl rfl) ?_
  refine wp rfl hC t_1m ?_
  refine WL_nil ?_
  refine W_cond rfl (by decide) (fun _ => ?_) (fun hc => by cases hc)
  refine wsr ?_
  refine wp rfl hC t_v ?_
  refine wp rfl hC t_k ?_
  refine WL_nil ?_
  refine W_ret ?_
  exact fin0 (.cons (.tmp rfl) (.cons (.tmp rfl) .nil)) rfl (by simp)
set_option maxRecDepth 20000 in
set_option maxHeartbeats 4000000 in
theorem vopen_c (se : List Int) (bse : B8 se) (hse : se.length ≤ 1000000) (k : Int) (id : List Int) (v n : Int) (b : List Int) (hid : id.length = 16) (bid : B8 id) (bb : B8 b) (hM : (RightR k v n (vseal se k id v n b).length ∧ k ≠ 1)) (hl : b.length ≤ 1000) : FnC Tryd.prog 14 [(1000000, .rp (I .u32 tbl))] [.vs se.length (I .u8 se), .ag (recX k id v n (bodyV (vseal se k id v n b)))] [] [(0, .row 5 1 b.length (I .u8 b))] (.tu [.row 0, .i .i64 0]) := by
  have bs := B8_vseal se id b k v n
  have bh := B8_hdrL hM.1 bid
  have hhl := hdr_le k v n hid
  have hsl := length_vseal se id b k v n
  have hvs : sealM (vkey se id) (vnon k n) (hdrL k id v n) b = (vseal se k id v n b) := by unfold vseal; rfl
  have hbk : xorM (vkey se id) 1 (vnon k n) ((vseal se k id v n b).take b.length) = b := by rw [← hvs]; exact back_take bb
  have hbt : atag (vkey se id) (vnon k n) (hdrL k id v n) ((vseal se k id v n b).take b.length) = (vseal se k id v n b).drop b.length := by rw [← hvs]; exact back_tag _ _ _ _
  have hlt : ((vseal se k id v n b).take b.length).length = b.length := by rw [List.length_take]; omega
  refine FnC.introR (N0 := 0) (T := 25) (E := [(0, .vs se.length (I .u8 se)), (1, .ag (recX k id v n (bodyV (vseal se k id v n b)))), (1000000, .rp (I .u32 tbl))]) Tryd.func14 rfl (by decide) mix rfl rfl rfl (by simp) rfl ⟨t_b, t_b, trivial⟩ (by simp) (by
        intro S ha hr hw
        have s0 : S 0 := hw 0 t_17 t_5
        refine ⟨by first | exact inSL_I _ | simp [s0], fun k b hm => ?_⟩
        simp only [List.mem_cons, Prod.mk.injEq, List.not_mem_nil, or_false] at hm
        rcases hm with ⟨rfl, rfl⟩
        · exact ⟨s0, by first | exact inSL_I _ | simp [s0]⟩) (fun F n0 X w ρ hC hro => ?_)
  refine wsr ?_
  refine wp rfl hC t_3s ?_
  refine wp rfl hC t_v ?_
  refine wp rfl hC t_k ?_
  refine WL_nil ?_
  refine W_seq ?_
  refine wsr ?_
  refine wp rfl hC t_3e ?_
  refine wp rfl hC (oc_call hC (.cons (.tmp rfl) .nil) (.cons1 (.free t_0) (.same t_0)) (vmay_t k id v n (vseal se k id v n b) hid bid bs hM) glob_nil t_0 t_8 rfl rfl) ?_
  refine wp rfl hC t_1m ?_
  refine WL_nil ?_
  refine W_cond rfl (by decide) (fun hc => by cases hc) (fun _ => ?_)
  refine W_skip ?_
  refine W_seq ?_
  refine W_drawD hC ?_
  refine WD_cons (.plain rfl t_1) ?_
  refine WD_cons (.plain rfl t_3q) ?_
  refine WD_cons (.plain rfl t_3y) ?_
  refine WD_cons (.plain rfl t_7x) ?_
  refine WD_cons (.plain rfl t_3g) ?_
  refine WD_cons (.plain rfl t_3c) ?_
  refine WD_cons (.plain rfl t_3t) ?_
  refine WD_cons (.plain rfl t_3o) ?_
  refine WD_cons (.plain rfl t_5e) ?_
  refine WD_cons (.plain rfl t_3e) ?_
  refine WD_cons (.plain rfl (oc_callN hC (.cons (.tmp rfl) .nil) (.cons1 (.free t_0) (.same t_0)) (header_c k id v n (vseal se k id v n b) hid bid bs hM.1) glob_nil t_0 rfl t_q rfl rfl)) ?_
  refine WD_cons (.plain rfl t_38) ?_
  refine WD_cons (.plain rfl t_3a) ?_
  refine WD_cons (.plain rfl (oc_callN hC (.cons (.tmp rfl) (.cons (.tmp rfl) (.cons (.tmp rfl) (.cons (.tmp rfl) .nil)))) (.cons1 (.free t_0) (.cons1 (.free t_0) (.cons1 t_31 (.cons1 t_31 (.same t_0))))) (open_c (vkey se id) (vnon k n) (hdrL k id v n) (vseal se k id v n b) (length_vkey se id) (length_vnon k n) (B8_vkey se id) (B8_vnon k n) bh bs (by omega) (by omega) (vseal se k id v n b).length rfl b.length hsl hbt) glob_nil t_0 rfl t_q rfl rfl)) ?_
  rw [hlt, hbk]
  refine WD_cons (.plain rfl t_l) ?_
  refine WD_cons (.plain rfl t_l) ?_
  refine WD_cons (.plain rfl t_4) ?_
  refine WD_cons (.plain rfl t_4) ?_
  refine WD_nil t_x ?_
  refine W_ret ?_
  exact fin1 (.cons (.tmp rfl) (.cons (.tmp rfl) .nil)) rfl rfl (inSL_I _)
set_option maxRecDepth 20000 in
set_option maxHeartbeats 4000000 in
theorem vopenbad_c (se : List Int) (bse : B8 se) (hse : se.length ≤ 1000000) (k : Int) (id : List Int) (v n : Int) (b : List Int) (hid : id.length = 16) (bid : B8 id) (bb : B8 b) (s : List Int) (bs : B8 s) (m : Nat) (hs : s.length = m + 16) (hM : (RightR k v n s.length ∧ k ≠ 1)) (hl : s.length ≤ 1000) (hne : atag (vkey se id) (vnon k n) (hdrL k id v n) (s.take m) ≠ s.drop m) : FnC Tryd.prog 14 [(1000000, .rp (I .u32 tbl))] [.vs se.length (I .u8 se), .ag (recX k id v n (bodyV s))] [] [] (.tu [.nils, .i .i64 8]) := by
  have bh := B8_hdrL hM.1 bid
  have hhl := hdr_le k v n hid
  
  refine FnC.introR (N0 := 0) (T := 25) (E := [(0, .vs se.length (I .u8 se)), (1, .ag (recX k id v n (bodyV s))), (1000000, .rp (I .u32 tbl))]) Tryd.func14 rfl (by decide) mix rfl rfl rfl (by simp) rfl ⟨t_b, t_b, trivial⟩ (by simp) t_10 (fun F n0 X w ρ hC hro => ?_)
  refine wsr ?_
  refine wp rfl hC t_3s ?_
  refine wp rfl hC t_v ?_
  refine wp rfl hC t_k ?_
  refine WL_nil ?_
  refine W_seq ?_
  refine wsr ?_
  refine wp rfl hC t_3e ?_
  refine wp rfl hC (oc_call hC (.cons (.tmp rfl) .nil) (.cons1 (.free t_0) (.same t_0)) (vmay_t k id v n s hid bid bs hM) glob_nil t_0 t_8 rfl rfl) ?_
  refine wp rfl hC t_1m ?_
  refine WL_nil ?_
  refine W_cond rfl (by decide) (fun hc => by cases hc) (fun _ => ?_)
  refine W_skip ?_
  refine W_seq ?_
  refine W_drawD hC ?_
  refine WD_cons (.plain rfl t_1) ?_
  refine WD_cons (.plain rfl t_3q) ?_
  refine WD_cons (.plain rfl t_3y) ?_
  refine WD_cons (.plain rfl t_7x) ?_
  refine WD_cons (.plain rfl t_3g) ?_
  refine WD_cons (.plain rfl t_3c) ?_
  refine WD_cons (.plain rfl t_3t) ?_
  refine WD_cons (.plain rfl t_3o) ?_
  refine WD_cons (.plain rfl t_5e) ?_
  refine WD_cons (.plain rfl t_3e) ?_
  refine WD_cons (.plain rfl (oc_callN hC (.cons (.tmp rfl) .nil) (.cons1 (.free t_0) (.same t_0)) (header_c k id v n s hid bid bs hM.1) glob_nil t_0 rfl t_q rfl rfl)) ?_
  refine WD_cons (.plain rfl t_38) ?_
  refine WD_cons (.plain rfl t_3a) ?_
  refine WD_cons (.plain rfl (oc_call hC (.cons (.tmp rfl) (.cons (.tmp rfl) (.cons (.tmp rfl) (.cons (.tmp rfl) .nil)))) (.cons1 (.free t_0) (.cons1 (.free t_0) (.cons1 t_31 (.cons1 t_31 (.same t_0))))) (openbad_c (vkey se id) (vnon k n) (hdrL k id v n) s (length_vkey se id) (length_vnon k n) (B8_vkey se id) (B8_vnon k n) bh bs (by omega) (by omega) s.length rfl m hs hne) glob_nil t_0 t_8 rfl rfl)) ?_
  refine WD_cons (.plain rfl t_l) ?_
  refine WD_cons (.plain rfl t_l) ?_
  refine WD_cons (.plain rfl t_4) ?_
  refine WD_cons (.plain rfl t_4) ?_
  refine WD_nil t_x ?_
  refine W_ret ?_
  exact fin0 (.cons (.tmp rfl) (.cons (.tmp rfl) .nil)) rfl (by simp)
set_option maxRecDepth 20000 in
set_option maxHeartbeats 4000000 in
theorem rvkey_c (se : List Int) (bse : B8 se) (hse : se.length ≤ 1000000) (id : List Int) (hid : id.length = 16) (bid : B8 id) : FnC Tryd.prog 11 [] [.vs se.length (I .u8 se), .vs 16 (I .u8 id)] [] [(0, .row 5 1 32 (I .u8 (vkey se id)))] (.sl 0 0 32) := by
  have hvl := length_vkey se id
  have hvd : keyS (codeM id se) purS (rnds 32) = (vkey se id) := by unfold vkey; rfl
  refine FnC.introR (N0 := 0) (T := 10) (E := [(0, .vs se.length (I .u8 se)), (1, .vs 16 (I .u8 id))]) Tryd.func11 rfl (by decide) mix rfl rfl rfl (by simp) rfl ⟨t_b, t_b, trivial⟩ (by simp) (by
        intro S ha hr hw
        have s0 : S 0 := hw 0 t_17 t_5
        refine ⟨by first | exact inSL_I _ | simp [s0], fun k b hm => ?_⟩
        simp only [List.mem_cons, Prod.mk.injEq, List.not_mem_nil, or_false] at hm
        rcases hm with ⟨rfl, rfl⟩
        · exact ⟨s0, by first | exact inSL_I _ | simp [s0]⟩) (fun F n0 X w ρ hC hro => ?_)
  refine wsr ?_
  refine wp rfl hC t_v ?_
  refine WL_nil ?_
  refine wsr ?_
  refine wp rfl hC t_1 ?_
  refine wp rfl hC t_1 ?_
  refine wp rfl hC t_6d ?_
  refine wp rfl hC t_4w ?_
  refine wp rfl hC (oc_callN hC (.cons (.tmp rfl) (.cons (.tmp rfl) (.cons (.tmp rfl) (.cons .cint .nil)))) (.cons1 t_31 (.cons1 t_31 (.cons1 t_31 (.cons1 (.free t_0) (.same t_0))))) (rkey_c se.length 16 11 32 se id purS rfl hid rfl bse bid (by unfold B8 purS; decide) hse (by decide) (by decide) (by decide)) glob_nil t_0 rfl t_q rfl rfl) ?_
  rw [hvd, show 32 * rnds 32 = 32 from rfl]
  refine wp rfl hC t_4 ?_
  refine WL_nil ?_
  refine W_ret ?_
  exact fin1 (.cons (.tmp rfl) .nil) rfl rfl (inSL_I _)
set_option maxRecDepth 20000 in
set_option maxHeartbeats 4000000 in
theorem rvnon_c (k n : Int) : FnC Tryd.prog 12 [] [.i .i64 k, .i .i64 n] [] [(0, .row 5 1 12 (I .u8 (vnon k n)))] (.row 0) := by
  have hnl := length_vnon k n
  have hnd : [k % 256, 0, 0, 0] ++ fixL (n % 18446744073709551616).toNat 8 = (vnon k n) := by unfold vnon; rfl
  refine FnC.introR (N0 := 0) (T := 12) (E := [(0, .i .i64 k), (1, .i .i64 n)]) Tryd.func12 rfl (by decide) mix rfl rfl rfl (by simp) rfl ⟨t_b, t_b, trivial⟩ (by simp) (by
        intro S ha hr hw
        have s0 : S 0 := hw 0 t_17 t_5
        refine ⟨by first | exact inSL_I _ | simp [s0], fun k b hm => ?_⟩
        simp only [List.mem_cons, Prod.mk.injEq, List.not_mem_nil, or_false] at hm
        rcases hm with ⟨rfl, rfl⟩
        · exact ⟨s0, by first | exact inSL_I _ | simp [s0]⟩) (fun F n0 X w ρ hC hro => ?_)
  refine wsr ?_
  refine wp rfl hC t_v ?_
  refine WL_nil ?_
  refine wsr ?_
  refine wp rfl hC t_1 ?_
  refine wp rfl hC t_2h ?_
  refine wp rfl hC t_65 ?_
  refine wp rfl hC t_1 ?_
  refine wp rfl hC t_2v ?_
  refine wp rfl hC (oc_callN hC (.cons (.tmp rfl) (.cons .cint .nil)) (.cons1 (.free t_0) (.cons1 (.free t_0) (.same t_0))) (rfix_c (n % 18446744073709551616).toNat 8 8 (by omega) (.inl ⟨rfl, by decide⟩)) glob_nil t_0 rfl t_q rfl rfl) ?_
  refine wp rfl hC (ox_append (n' := 12) (cs' := I .u8 (vnon k n)) hC (.tmp rfl) (.tmp rfl) t_35 t_a t_r Tryd.underlying22 cells_5 bytes_5 zero_5 rfl (by decide) (by rw [length_I, length_fixL]; decide) t_t rfl ((app_I (length_fixL _ _)).trans (by rw [hnd])) t_n (by omega) rfl rfl) ?_
  refine wp rfl hC t_4 ?_
  refine WL_nil ?_
  refine W_ret ?_
  exact fin1 (.cons (.tmp rfl) .nil) rfl rfl (inSL_I _)
set_option maxRecDepth 20000 in
set_option maxHeartbeats 4000000 in
theorem rvclose_c (se : List Int) (bse : B8 se) (hse : se.length ≤ 1000000) (k : Int) (id : List Int) (v n : Int) (b : List Int) (hid : id.length = 16) (bid : B8 id) (bb : B8 b) (hR : RightR k v n b.length) : FnC Tryd.prog 17 [] [.vs se.length (I .u8 se), .ag (recX k id v n (bodyV b))] [] [(0, .row 5 1 (vseal se k id v n b).length (I .u8 (vseal se k id v n b)))] (.row 0) := by
  have bh := B8_hdrL hR bid
  have hhl := hdr_le k v n hid
  have hbl := hR.2.2.2.2.2.2
  have hvs : sealM (vkey se id) (vnon k n) (hdrL k id v n) b = (vseal se k id v n b) := by unfold vseal; rfl
  refine FnC.introR (N0 := 0) (T := 19) (E := [(0, .vs se.length (I .u8 se)), (1, .ag (recX k id v n (bodyV b)))]) Tryd.func17 rfl (by decide) mix rfl rfl rfl (by simp) rfl ⟨t_b, t_b, trivial⟩ (by simp) (by
        intro S ha hr hw
        have s0 : S 0 := hw 0 t_17 t_5
        refine ⟨by first | exact inSL_I _ | simp [s0], fun k b hm => ?_⟩
        simp only [List.mem_cons, Prod.mk.injEq, List.not_mem_nil, or_false] at hm
        rcases hm with ⟨rfl, rfl⟩
        · exact ⟨s0, by first | exact inSL_I _ | simp [s0]⟩) (fun F n0 X w ρ hC hro => ?_)
  refine wsr ?_
  refine wp rfl hC t_3s ?_
  refine wp rfl hC t_v ?_
  refine WL_nil ?_
  refine W_seq ?_
  refine W_drawD hC ?_
  refine WD_cons (.plain rfl t_1) ?_
  refine WD_cons (.plain rfl (oc_field hC (.tmp rfl) fld_40_1 (by decide) t_9 rfl rfl)) ?_
  refine WD_cons (.plain rfl t_73) ?_
  refine WD_cons (.plain rfl (oc_callN hC (.cons (.tmp rfl) (.cons (.tmp rfl) .nil)) (.cons1 (.free (inSL_I _)) (.cons1 (.sl1 rfl (by exact rec_id hid) (inSL_I _)) (.same (by simp)))) (rvkey_c se bse hse id hid bid) glob_nil t_0 rfl t_q rfl rfl)) ?_
  refine WD_cons (.plain rfl t_3x) ?_
  refine WD_cons (.plain rfl t_3c) ?_
  refine WD_cons (.plain rfl t_4e) ?_
  refine WD_cons (.plain rfl t_3o) ?_
  refine WD_cons (.plain rfl t_5x) ?_
  refine WD_cons (.plain rfl t_4i) ?_
  refine WD_cons (.plain rfl (oc_callN hC (.cons (.tmp rfl) .nil) (.cons1 (.free t_0) (.same t_0)) (rheader_c k id v n b hid bid bb hR) glob_nil t_0 rfl t_q rfl rfl)) ?_
  refine WD_cons (.plain rfl (oc_field hC (.tmp rfl) fld_40_4 (by decide) t_9 rfl rfl)) ?_
  refine WD_cons (.plain rfl t_3a) ?_
  refine WD_cons (.plain rfl (oc_callN hC (.cons (.tmp rfl) (.cons (.tmp rfl) (.cons (.tmp rfl) (.cons (.tmp rfl) .nil)))) (.cons1 (.sl1 rfl (by rw [List.drop_zero]; exact take_allI (length_vkey se id)) (inSL_I _)) (.cons1 (.row rfl rfl (inSL_I _)) (.cons1 (.row rfl rfl (inSL_I _)) (.cons1 (.free (inSL_I _)) (.same (by simp)))))) (rseal_c (vkey se id) (vnon k n) (hdrL k id v n) b (length_vkey se id) (length_vnon k n) (B8_vkey se id) (B8_vnon k n) bh bb (by omega) (by omega)) glob_nil t_0 rfl t_q rfl rfl)) ?_
  rw [hvs]
  refine WD_cons (.plain rfl t_4) ?_
  refine WD_nil t_x ?_
  refine W_ret ?_
  exact fin1 (.cons (.tmp rfl) .nil) rfl rfl (inSL_I _)
end Go.Proofs.YtfngpppghlbanaaDoor
