/- Own work, printed by a program of this claim: walks through functions of the program. -/
import Derived.Test.YtfngpppghlbanaaDoorW4
import Derived.Test.YtfngpppghlbanaaDoorProg
import Derived.KernelRfl
set_option linter.unusedSimpArgs false
set_option linter.unusedVariables false
namespace Go.Proofs.YtfngpppghlbanaaDoor
open Go.Sk Go.RowKit
attribute [local simp] AV.inSL AV.inS inSL_I Blk.inS Blk.cs AV.novs AV.novsL novsL_I AV.ren AV.cells AV.one lk tuAV
set_option maxRecDepth 20000 in
set_option maxHeartbeats 4000000 in
theorem rword_c (n : Int) (hn : 0 ≤ n) : FnC Tryd.prog 51 [] [.i .i64 n] [] [] (.i .i64 (n % 4294967296)) := by
  refine FnC.introR (N0 := 0) (T := 5) (E := [(0, .i .i64 n)]) Tryd.func51 rfl (by decide) mix rfl rfl rfl (by simp) rfl ⟨t_b, trivial⟩ (by simp) t_10 (fun F n0 X w ρ hC hro => ?_)
  refine wsr ?_
  refine wp rfl hC t_k ?_
  refine WL_nil ?_
  refine wsr ?_
  refine wp rfl hC t_1 ?_
  refine wp rfl hC t_45 ?_
  refine wp rfl hC t_4 ?_
  refine WL_nil ?_
  refine W_ret ?_
  exact fin0 (.cons (.tmp rfl) .nil) t_1u t_0
set_option maxRecDepth 20000 in
set_option maxHeartbeats 4000000 in
theorem rturn_c (x n : Int) (m : Nat) (hm : n = m) (hx : 0 ≤ x ∧ x < 4294967296) (hn : m ≤ 31) : FnC Tryd.prog 79 [] [.i .i64 x, .i .i64 n] [] [] (.i .i64 (rol x m)) := by
  refine FnC.introR (N0 := 0) (T := 18) (E := [(0, .i .i64 x), (1, .i .i64 n)]) Tryd.func79 rfl (by decide) mix rfl rfl rfl (by simp) rfl ⟨t_b, t_b, trivial⟩ (by simp) t_10 (fun F n0 X w ρ hC hro => ?_)
  refine wsr ?_
  refine wp rfl hC t_k ?_
  refine WL_nil ?_
  refine W_seq ?_
  refine wsr ?_
  refine wp rfl hC t_k ?_
  refine WL_nil ?_
  refine W_blk ?_
  refine W_loopW (fun (ζ : Nat) => ⟨0, [(0, .i .i64 (rol x ζ)), (1, .i .i64 n), (5, .i .i64 ζ)], []⟩) (fun ζ => ζ ≤ m) (fun ζ => m - ζ) (0) (Nat.zero_le _) (weak (fun k => k) (.cons rfl (congrArg (AV.i _) (rol_zero hx)) trivial (.cons rfl t_2y trivial (.cons rfl rfl trivial .nil))) .nil rfl rfl rfl) ?_
  intro i hR
  replace hR : i ≤ m := hR
  first | show W _ _ _ ⟨0, [(0, .i .i64 (rol x i)), (1, .i .i64 n), (5, .i .i64 i)], []⟩ | skip
  have hr := rol_range (n := i) hx (by omega)
  refine W_seq ?_
  refine wsr ?_
  refine wp rfl hC t_1 ?_
  refine wp rfl hC t_1 ?_
  refine wp rfl hC t_1e ?_
  refine WL_nil ?_
  refine W_cond rfl (by decide) (fun hc => ?_) (fun hc => ?_)
  ·
    replace hc := lss_t hc
    
    refine W_skip ?_
    refine W_seq ?_
    refine W_blk ?_
    refine W_region ?_
    refine wp rfl hC t_1 ?_
    refine wp rfl hC t_4g ?_
    refine wp rfl hC t_45 ?_
    refine wp rfl hC t_1 ?_
    refine wp rfl hC t_4j ?_
    refine wp rfl hC t_3p ?_
    refine wp rfl hC t_4 ?_
    refine WL_nil ?_
    refine W_region ?_
    refine wp rfl hC t_1 ?_
    refine wp rfl hC t_36 ?_
    refine wp rfl hC t_4 ?_
    refine WL_nil ?_
    exact ⟨(i + 1), (by omega), (weak (fun k => k) (.cons rfl (congrArg (AV.i _) (rol_succ hx (by omega)).symm) trivial (.cons rfl t_2y trivial (.cons rfl t_2y trivial .nil))) .nil rfl rfl rfl), (by omega)⟩
  ·
    replace hc := lss_f hc
    obtain rfl : i = m := by omega
    refine W_exit ?_
    refine wsr ?_
    refine wp rfl hC t_1 ?_
    refine wp rfl hC t_4 ?_
    refine WL_nil ?_
    refine W_ret ?_
    exact fin0 (.cons (.tmp rfl) .nil) t_1u t_0
set_option maxRecDepth 20000 in
set_option maxHeartbeats 4000000 in
theorem rxor_c (a b : Int) (ha : 0 ≤ a ∧ a < 4294967296) (hb : 0 ≤ b ∧ b < 4294967296) : FnC Tryd.prog 80 [] [.i .i64 a, .i .i64 b] [] [] (.i .i64 (xr a b)) := by
  have hx := xr_range a b
  refine FnC.introR (N0 := 0) (T := 11) (E := [(0, .i .i64 a), (1, .i .i64 b)]) Tryd.func80 rfl (by decide) mix rfl rfl rfl (by simp) rfl ⟨t_b, t_b, trivial⟩ (by simp) t_10 (fun F n0 X w ρ hC hro => ?_)
  refine wsr ?_
  refine wp rfl hC t_k ?_
  refine WL_nil ?_
  refine wsr ?_
  refine wp rfl hC t_1 ?_
  refine wp rfl hC t_4a ?_
  refine wp rfl hC t_1 ?_
  refine wp rfl hC t_4a ?_
  refine wp rfl hC (oc_bin hC rfl (.tmp rfl) (.tmp rfl) (r := xr a b) rfl rfl rfl) ?_
  refine wp rfl hC t_4d ?_
  refine wp rfl hC t_4 ?_
  refine WL_nil ?_
  refine W_ret ?_
  exact fin0 (.cons (.tmp rfl) .nil) t_1u t_0
set_option maxRecDepth 20000 in
set_option maxHeartbeats 4000000 in
theorem rquarter_c (m a b c d : Nat) (s : List Int) (hs : s.length = m) (hW : W32 s) (ha : a < m) (hb : b < m) (hcm : c < m) (hd : d < m) (hm : m ≤ 1000) (hab : a ≠ b) (hac : a ≠ c) (had : a ≠ d) (hbc : b ≠ c) (hbd : b ≠ d) (hcd : c ≠ d) : FnC Tryd.prog 57 [] [.vs m (I .i64 s), .i .i64 (a : Nat), .i .i64 (b : Nat), .i .i64 (c : Nat), .i .i64 (d : Nat)] [] [(0, .row 3 1 m (I .i64 (quarterL s a b c d)))] (.row 0) := by
  obtain ⟨x, hva⟩ : ∃ x, s.getD a 0 = x := ⟨_, rfl⟩
  obtain ⟨y, hvb⟩ : ∃ x, s.getD b 0 = x := ⟨_, rfl⟩
  obtain ⟨z, hvc⟩ : ∃ x, s.getD c 0 = x := ⟨_, rfl⟩
  obtain ⟨wd, hvd⟩ : ∃ x, s.getD d 0 = x := ⟨_, rfl⟩
  have hxr := hW.get a
  have hyr := hW.get b
  have hzr := hW.get c
  have hwr := hW.get d
  rw [hva] at hxr
  rw [hvb] at hyr
  rw [hvc] at hzr
  rw [hvd] at hwr
  have hba := Ne.symm hab
  have hca := Ne.symm hac
  have hda := Ne.symm had
  have hcb := Ne.symm hbc
  have hdb := Ne.symm hbd
  have hdc := Ne.symm hcd
  have r1 := q1_range x y
  have r2 := q2_range x y wd
  have r3 := q3_range x y z wd
  have r4 := q4_range x y z wd
  have r5 := qa_range x y z wd
  have r6 := qd_range x y z wd
  have r7 := qc_range x y z wd
  have r8 := qb_range x y z wd
  refine FnC.introR (N0 := 0) (T := 120) (E := [(0, .vs m (I .i64 s)), (1, .i .i64 (a : Nat)), (2, .i .i64 (b : Nat)), (3, .i .i64 (c : Nat)), (4, .i .i64 (d : Nat))]) Tryd.func57 rfl (by decide) mix rfl rfl rfl (by simp) rfl ⟨t_b, t_b, t_b, t_b, t_b, trivial⟩ (by simp) (by
        intro S ha hr hw
        have s0 : S 0 := hw 0 t_17 t_5
        refine ⟨by first | exact inSL_I _ | simp [s0], fun k b hm => ?_⟩
        simp only [List.mem_cons, Prod.mk.injEq, List.not_mem_nil, or_false] at hm
        rcases hm with ⟨rfl, rfl⟩
        · exact ⟨s0, by first | exact inSL_I _ | simp [s0]⟩) (fun F n0 X w ρ hC hro => ?_)
  refine wsr ?_
  refine wp rfl hC t_v ?_
  refine WL_nil ?_
  refine wsr ?_
  refine wp rfl hC (ox_litRI (k := .i64) (ws := []) hC .nil Tryd.underlying77 cells_3 zero_3 rfl (by decide) rfl rfl t_5 rfl rfl rfl) ?_
  refine wp rfl hC t_1 ?_
  refine wp rfl hC (ox_append (n' := m) (cs' := I .i64 s) hC (.tmp rfl) (.tmp rfl) t_35 t_a t_r Tryd.underlying77 cells_3 bytes_3 zero_3 rfl (by decide) t_1n t_t (Nat.zero_add _) ((app_I (us := []) hs).trans rfl) t_n (by omega) rfl rfl) ?_
  refine wp rfl hC t_4 ?_
  refine WL_nil ?_
  refine W_seq ?_
  refine W_drawD hC ?_
  refine WD_cons (.plain rfl t_1) ?_
  refine WD_cons (.plain rfl t_1) ?_
  refine WD_cons (.plain rfl t_1) ?_
  refine WD_cons (.plain rfl t_1) ?_
  refine WD_cons (.plain rfl t_6g) ?_
  refine WD_cons (.plain rfl (oc_load hC (v := .i .i64 x) (.tmp rfl) t_3 shp_3 (by exact (unit_at t_19 hva)) rfl rfl)) ?_
  refine WD_cons (.plain rfl t_1) ?_
  refine WD_cons (.plain rfl t_1) ?_
  refine WD_cons (.plain rfl t_6g) ?_
  refine WD_cons (.plain rfl (oc_load hC (v := .i .i64 y) (.tmp rfl) t_3 shp_3 (by exact (unit_at t_19 hvb)) rfl rfl)) ?_
  refine WD_cons (.plain rfl t_3p) ?_
  refine WD_cons (.plain rfl t_4z) ?_
  rw [show (x + y) % 4294967296 = q1 x y by unfold q1; rfl]
  refine WD_cons (.plain rfl t_6g) ?_
  refine WD_cons (.plain rfl t_4k) ?_
  refine WD_nil t_x ?_
  refine W_seq ?_
  refine W_drawD hC ?_
  refine WD_cons (.plain rfl t_1) ?_
  refine WD_cons (.plain rfl t_1) ?_
  refine WD_cons (.plain rfl t_1) ?_
  refine WD_cons (.plain rfl t_1) ?_
  refine WD_cons (.plain rfl t_6g) ?_
  refine WD_cons (.plain rfl (oc_load hC (v := .i .i64 wd) (.tmp rfl) t_3 shp_3 (by exact (unit_at t_19 (by rw [sd_ne had]; exact hvd))) rfl rfl)) ?_
  refine WD_cons (.plain rfl t_1) ?_
  refine WD_cons (.plain rfl t_1) ?_
  refine WD_cons (.plain rfl t_6g) ?_
  refine WD_cons (.plain rfl (oc_load hC (v := .i .i64 (q1 x y)) (.tmp rfl) t_3 shp_3 t_4m rfl rfl)) ?_
  refine WD_cons (.plain rfl t_5g) ?_
  refine WD_cons (.plain rfl (oc_call hC (.cons (.tmp rfl) (.cons .cint .nil)) (.cons1 (.free t_0) (.cons1 (.free t_0) (.same t_0))) (rturn_c _ _ 16 rfl (xr_range _ _) (by decide)) glob_nil t_0 t_8 rfl rfl)) ?_
  rw [show rol (xr wd (q1 x y)) 16 = q2 x y wd by unfold q2; rfl]
  refine WD_cons (.plain rfl t_6g) ?_
  refine WD_cons (.plain rfl t_4k) ?_
  refine WD_nil t_x ?_
  refine W_seq ?_
  refine W_drawD hC ?_
  refine WD_cons (.plain rfl t_1) ?_
  refine WD_cons (.plain rfl t_1) ?_
  refine WD_cons (.plain rfl t_1) ?_
  refine WD_cons (.plain rfl t_1) ?_
  refine WD_cons (.plain rfl t_6g) ?_
  refine WD_cons (.plain rfl (oc_load hC (v := .i .i64 z) (.tmp rfl) t_3 shp_3 (by exact (unit_at t_19 (by rw [sd_ne hdc, sd_ne hac]; exact hvc))) rfl rfl)) ?_
  refine WD_cons (.plain rfl t_1) ?_
  refine WD_cons (.plain rfl t_1) ?_
  refine WD_cons (.plain rfl t_6g) ?_
  refine WD_cons (.plain rfl (oc_load hC (v := .i .i64 (q2 x y wd)) (.tmp rfl) t_3 shp_3 t_4m rfl rfl)) ?_
  refine WD_cons (.plain rfl t_3p) ?_
  refine WD_cons (.plain rfl t_4z) ?_
  rw [show (z + (q2 x y wd)) % 4294967296 = q3 x y z wd by unfold q3; rfl]
  refine WD_cons (.plain rfl t_6g) ?_
  refine WD_cons (.plain rfl t_4k) ?_
  refine WD_nil t_x ?_
  refine W_seq ?_
  refine W_drawD hC ?_
  refine WD_cons (.plain rfl t_1) ?_
  refine WD_cons (.plain rfl t_1) ?_
  refine WD_cons (.plain rfl t_1) ?_
  refine WD_cons (.plain rfl t_1) ?_
  refine WD_cons (.plain rfl t_6g) ?_
  refine WD_cons (.plain rfl (oc_load hC (v := .i .i64 y) (.tmp rfl) t_3 shp_3 (by exact (unit_at t_19 (by rw [sd_ne hcb, sd_ne hdb, sd_ne hab]; exact hvb))) rfl rfl)) ?_
  refine WD_cons (.plain rfl t_1) ?_
  refine WD_cons (.plain rfl t_1) ?_
  refine WD_cons (.plain rfl t_6g) ?_
  refine WD_cons (.plain rfl (oc_load hC (v := .i .i64 (q3 x y z wd)) (.tmp rfl) t_3 shp_3 t_4m rfl rfl)) ?_
  refine WD_cons (.plain rfl t_5g) ?_
  refine WD_cons (.plain rfl (oc_call hC (.cons (.tmp rfl) (.cons .cint .nil)) (.cons1 (.free t_0) (.cons1 (.free t_0) (.same t_0))) (rturn_c _ _ 12 rfl (xr_range _ _) (by decide)) glob_nil t_0 t_8 rfl rfl)) ?_
  rw [show rol (xr y (q3 x y z wd)) 12 = q4 x y z wd by unfold q4; rfl]
  refine WD_cons (.plain rfl t_6g) ?_
  refine WD_cons (.plain rfl t_4k) ?_
  refine WD_nil t_x ?_
  refine W_seq ?_
  refine W_drawD hC ?_
  refine WD_cons (.plain rfl t_1) ?_
  refine WD_cons (.plain rfl t_1) ?_
  refine WD_cons (.plain rfl t_1) ?_
  refine WD_cons (.plain rfl t_1) ?_
  refine WD_cons (.plain rfl t_6g) ?_
  refine WD_cons (.plain rfl (oc_load hC (v := .i .i64 (q1 x y)) (.tmp rfl) t_3 shp_3 (by exact (unit_at t_19 (by rw [sd_ne hba, sd_ne hca, sd_ne hda, sd_eq t_19]))) rfl rfl)) ?_
  refine WD_cons (.plain rfl t_1) ?_
  refine WD_cons (.plain rfl t_1) ?_
  refine WD_cons (.plain rfl t_6g) ?_
  refine WD_cons (.plain rfl (oc_load hC (v := .i .i64 (q4 x y z wd)) (.tmp rfl) t_3 shp_3 t_4m rfl rfl)) ?_
  refine WD_cons (.plain rfl t_3p) ?_
  refine WD_cons (.plain rfl t_4z) ?_
  rw [show ((q1 x y) + (q4 x y z wd)) % 4294967296 = qa x y z wd by unfold qa; rfl]
  refine WD_cons (.plain rfl t_6g) ?_
  refine WD_cons (.plain rfl t_4k) ?_
  refine WD_nil t_x ?_
  refine W_seq ?_
  refine W_drawD hC ?_
  refine WD_cons (.plain rfl t_1) ?_
  refine WD_cons (.plain rfl t_1) ?_
  refine WD_cons (.plain rfl t_1) ?_
  refine WD_cons (.plain rfl t_1) ?_
  refine WD_cons (.plain rfl t_6g) ?_
  refine WD_cons (.plain rfl (oc_load hC (v := .i .i64 (q2 x y wd)) (.tmp rfl) t_3 shp_3 (by exact (unit_at t_19 (by rw [sd_ne had, sd_ne hbd, sd_ne hcd, sd_eq t_19]))) rfl rfl)) ?_
  refine WD_cons (.plain rfl t_1) ?_
  refine WD_cons (.plain rfl t_1) ?_
  refine WD_cons (.plain rfl t_6g) ?_
  refine WD_cons (.plain rfl (oc_load hC (v := .i .i64 (qa x y z wd)) (.tmp rfl) t_3 shp_3 t_4m rfl rfl)) ?_
  refine WD_cons (.plain rfl t_5g) ?_
  refine WD_cons (.plain rfl (oc_call hC (.cons (.tmp rfl) (.cons .cint .nil)) (.cons1 (.free t_0) (.cons1 (.free t_0) (.same t_0))) (rturn_c _ _ 8 rfl (xr_range _ _) (by decide)) glob_nil t_0 t_8 rfl rfl)) ?_
  rw [show rol (xr (q2 x y wd) (qa x y z wd)) 8 = qd x y z wd by unfold qd; rfl]
  refine WD_cons (.plain rfl t_6g) ?_
  refine WD_cons (.plain rfl t_4k) ?_
  refine WD_nil t_x ?_
  refine W_seq ?_
  refine W_drawD hC ?_
  refine WD_cons (.plain rfl t_1) ?_
  refine WD_cons (.plain rfl t_1) ?_
  refine WD_cons (.plain rfl t_1) ?_
  refine WD_cons (.plain rfl t_1) ?_
  refine WD_cons (.plain rfl t_6g) ?_
  refine WD_cons (.plain rfl (oc_load hC (v := .i .i64 (q3 x y z wd)) (.tmp rfl) t_3 shp_3 (by exact (unit_at t_19 (by rw [sd_ne hdc, sd_ne hac, sd_ne hbc, sd_eq t_19]))) rfl rfl)) ?_
  refine WD_cons (.plain rfl t_1) ?_
  refine WD_cons (.plain rfl t_1) ?_
  refine WD_cons (.plain rfl t_6g) ?_
  refine WD_cons (.plain rfl (oc_load hC (v := .i .i64 (qd x y z wd)) (.tmp rfl) t_3 shp_3 t_4m rfl rfl)) ?_
  refine WD_cons (.plain rfl t_3p) ?_
  refine WD_cons (.plain rfl t_4z) ?_
  rw [show ((q3 x y z wd) + (qd x y z wd)) % 4294967296 = qc x y z wd by unfold qc; rfl]
  refine WD_cons (.plain rfl t_6g) ?_
  refine WD_cons (.plain rfl t_4k) ?_
  refine WD_nil t_x ?_
  refine W_seq ?_
  refine W_drawD hC ?_
  refine WD_cons (.plain rfl t_1) ?_
  refine WD_cons (.plain rfl t_1) ?_
  refine WD_cons (.plain rfl t_1) ?_
  refine WD_cons (.plain rfl t_1) ?_
  refine WD_cons (.plain rfl t_6g) ?_
  refine WD_cons (.plain rfl (oc_load hC (v := .i .i64 (q4 x y z wd)) (.tmp rfl) t_3 shp_3 (by exact (unit_at t_19 (by rw [sd_ne hcb, sd_ne hdb, sd_ne hab, sd_eq t_19]))) rfl rfl)) ?_
  refine WD_cons (.plain rfl t_1) ?_
  refine WD_cons (.plain rfl t_1) ?_
  refine WD_cons (.plain rfl t_6g) ?_
  refine WD_cons (.plain rfl (oc_load hC (v := .i .i64 (qc x y z wd)) (.tmp rfl) t_3 shp_3 t_4m rfl rfl)) ?_
  refine WD_cons (.plain rfl t_5g) ?_
  refine WD_cons (.plain rfl (oc_call hC (.cons (.tmp rfl) (.cons .cint .nil)) (.cons1 (.free t_0) (.cons1 (.free t_0) (.same t_0))) (rturn_c _ _ 7 rfl (xr_range _ _) (by decide)) glob_nil t_0 t_8 rfl rfl)) ?_
  rw [show rol (xr (q4 x y z wd) (qc x y z wd)) 7 = qb x y z wd by unfold qb; rfl]
  refine WD_cons (.plain rfl t_6g) ?_
  refine WD_cons (.plain rfl t_4k) ?_
  refine WD_nil t_x ?_
  refine wsr ?_
  rw [q_end hab hac had hbc hbd hcd, quarter_of hva hvb hvc hvd]
  refine wp rfl hC t_1 ?_
  refine wp rfl hC t_4 ?_
  refine WL_nil ?_
  refine W_ret ?_
  exact fin1 (.cons (.tmp rfl) .nil) rfl rfl (inSL_I _)
set_option maxRecDepth 20000 in
set_option maxHeartbeats 4000000 in
theorem rwords_c (m l : Nat) (b : List Int) (hl4 : l = 4 * m) (hb : b.length = l) (hb8 : B8 b) (hm : m ≤ 1000) : FnC Tryd.prog 56 [] [.vs l (I .u8 b)] [] [(0, .row 3 1 m (I .i64 (wordsN b m)))] (.row 0) := by
  refine FnC.introR (N0 := 0) (T := 45) (E := [(0, .vs l (I .u8 b))]) Tryd.func56 rfl (by decide) mix rfl rfl rfl (by simp) rfl ⟨t_b, trivial⟩ (by simp) (by
        intro S ha hr hw
        have s0 : S 0 := hw 0 t_17 t_5
        refine ⟨by first | exact inSL_I _ | simp [s0], fun k b hm => ?_⟩
        simp only [List.mem_cons, Prod.mk.injEq, List.not_mem_nil, or_false] at hm
        rcases hm with ⟨rfl, rfl⟩
        · exact ⟨s0, by first | exact inSL_I _ | simp [s0]⟩) (fun F n0 X w ρ hC hro => ?_)
  refine wsr ?_
  refine wp rfl hC t_v ?_
  refine WL_nil ?_
  refine wsr ?_
  refine wp rfl hC t_v ?_
  refine WL_nil ?_
  refine W_seq ?_
  refine wsr ?_
  refine wp rfl hC t_k ?_
  refine WL_nil ?_
  refine W_blk ?_
  refine W_weak (weak_nil (t := 3) (e := 3) (sz := 1) rfl) ?_
  refine W_loopW (fun (ζ : Nat) => ⟨1, [(0, .vs l (I .u8 b)), (3, .row 0), (4, .i .i64 (4 * (ζ : Int)))], [(0, .row 3 1 ζ (I .i64 (wordsN b ζ)))]⟩) (fun ζ => ζ ≤ m) (fun ζ => m - ζ) (0) (Nat.zero_le _) (weak (fun k => k) (.cons rfl t_30 t_0 (.cons rfl t_5 t_6 (.cons rfl rfl trivial .nil))) (.cons rfl (renRow (l' := []) rfl wordsN_zero) rfl t_0 .nil) rfl rfl rfl) ?_
  intro i hR
  replace hR : i ≤ m := hR
  first | show W _ _ _ ⟨1, [(0, .vs l (I .u8 b)), (3, .row 0), (4, .i .i64 (4 * (i : Int)))], [(0, .row 3 1 i (I .i64 (wordsN b i)))]⟩ | skip
  have h0 := hb8.get (4 * i)
  have h1 := hb8.get (4 * i + 1)
  have h2 := hb8.get (4 * i + 2)
  have h3 := hb8.get (4 * i + 3)
  refine W_seq ?_
  refine wsr ?_
  refine wp rfl hC t_1 ?_
  refine wp rfl hC t_36 ?_
  refine wp rfl hC t_1 ?_
  refine wp rfl hC t_32 ?_
  refine wp rfl hC t_1e ?_
  refine WL_nil ?_
  refine W_cond rfl (by decide) (fun hc => ?_) (fun hc => ?_)
  ·
    replace hc := lss_t hc
    
    refine W_skip ?_
    refine W_seq ?_
    refine W_blk ?_
    refine W_drawD hC ?_
    refine WD_cons (.plain rfl t_1) ?_
    refine WD_cons (.plain rfl t_1) ?_
    refine WD_cons (.plain rfl t_1) ?_
    refine WD_cons (.plain rfl (ox_indexS hC (j := 4 * i) (.tmp rfl) (.tmp rfl) idx_22 t_w t_d t_33 t_2 rfl rfl)) ?_
    refine WD_cons (.plain rfl t_6l) ?_
    refine WD_cons (.plain rfl t_4d) ?_
    refine WD_cons (.plain rfl t_1) ?_
    refine WD_cons (.plain rfl t_1) ?_
    refine WD_cons (.plain rfl t_36) ?_
    refine WD_cons (.plain rfl (ox_indexS hC (j := 4 * i + 1) (.tmp rfl) (.tmp rfl) idx_22 t_w t_d t_33 t_2 rfl rfl)) ?_
    refine WD_cons (.plain rfl t_6l) ?_
    refine WD_cons (.plain rfl t_4d) ?_
    refine WD_cons (.plain rfl t_4g) ?_
    refine WD_cons (.plain rfl t_3p) ?_
    refine WD_cons (.plain rfl t_1) ?_
    refine WD_cons (.plain rfl t_1) ?_
    refine WD_cons (.plain rfl t_36) ?_
    refine WD_cons (.plain rfl (ox_indexS hC (j := 4 * i + 2) (.tmp rfl) (.tmp rfl) idx_22 t_w t_d t_33 t_2 rfl rfl)) ?_
    refine WD_cons (.plain rfl t_6l) ?_
    refine WD_cons (.plain rfl t_4d) ?_
    refine WD_cons (.plain rfl t_4g) ?_
    refine WD_cons (.plain rfl t_3p) ?_
    refine WD_cons (.plain rfl t_1) ?_
    refine WD_cons (.plain rfl t_1) ?_
    refine WD_cons (.plain rfl t_36) ?_
    refine WD_cons (.plain rfl (ox_indexS hC (j := 4 * i + 3) (.tmp rfl) (.tmp rfl) idx_22 t_w t_d t_33 t_2 rfl rfl)) ?_
    refine WD_cons (.plain rfl t_6l) ?_
    refine WD_cons (.plain rfl t_4d) ?_
    refine WD_cons (.plain rfl t_4g) ?_
    refine WD_cons (.plain rfl (oc_bin hC rfl (.tmp rfl) (.tmp rfl) (r := le4 b (4 * i)) (by rw [i64_add (by omega)]; unfold le4; rfl) rfl rfl)) ?_
    refine WD_cons (.plain rfl t_42) ?_
    refine WD_cons (.plain rfl t_6v) ?_
    refine WD_cons (.plain rfl t_4) ?_
    refine WD_nil t_x ?_
    refine W_region ?_
    refine wp rfl hC t_1 ?_
    refine wp rfl hC t_36 ?_
    refine wp rfl hC t_4 ?_
    refine WL_nil ?_
    exact ⟨(i + 1), (by omega), (weak (fun k => bif Nat.beq k 0 then 1 else k) (.cons rfl t_30 t_0 (.cons rfl t_5 t_6 (.cons rfl (congrArg (AV.i _) (by omega)) trivial .nil))) (.cons rfl (renRow rfl wordsN_succ) rfl t_0 .nil) rfl rfl rfl), (by omega)⟩
  ·
    replace hc := lss_f hc
    obtain rfl : i = m := by omega
    refine W_exit ?_
    refine wsr ?_
    refine wp rfl hC t_1 ?_
    refine wp rfl hC t_4 ?_
    refine WL_nil ?_
    refine W_ret ?_
    exact fin1 (.cons (.tmp rfl) .nil) rfl rfl (inSL_I _)
set_option maxRecDepth 20000 in
set_option maxHeartbeats 4000000 in
theorem rblock_c (key nonce : List Int) (n : Int) (hk : key.length = 32) (hnc : nonce.length = 12) (hk8 : B8 key) (hc8 : B8 nonce) (hn : 0 ≤ n ∧ n < 4294967296) : FnC Tryd.prog 42 [] [.vs 32 (I .u8 key), .i .i64 n, .vs 12 (I .u8 nonce)] [] [(0, .row 5 1 64 (I .u8 (blkM key n nonce)))] (.row 0) := by
  have hlF := length_firstM key n nonce
  have hwF := W32_first hk8 hc8 hn
  refine FnC.introR (N0 := 0) (T := 79) (E := [(0, .vs 32 (I .u8 key)), (1, .i .i64 n), (2, .vs 12 (I .u8 nonce))]) Tryd.func42 rfl (by decide) mix rfl rfl rfl (by simp) rfl ⟨t_b, t_b, t_b, trivial⟩ (by simp) (by
        intro S ha hr hw
        have s0 : S 0 := hw 0 t_17 t_5
        refine ⟨by first | exact inSL_I _ | simp [s0], fun k b hm => ?_⟩
        simp only [List.mem_cons, Prod.mk.injEq, List.not_mem_nil, or_false] at hm
        rcases hm with ⟨rfl, rfl⟩
        · exact ⟨s0, by first | exact inSL_I _ | simp [s0]⟩) (fun F n0 X w ρ hC hro => ?_)
  refine wsr ?_
  refine wp rfl hC t_v ?_
  refine WL_nil ?_
  refine wsr ?_
  refine wp rfl hC (ox_litRI (k := .i64) (ws := [1634760805, 857760878, 2036477234, 1797285236]) hC (.cons .cint (.cons .cint (.cons .cint (.cons .cint .nil)))) Tryd.underlying77 cells_3 zero_3 rfl (by decide) rfl rfl t_5 rfl rfl rfl) ?_
  refine wp rfl hC t_4 ?_
  refine WL_nil ?_
  refine wsr ?_
  refine wp rfl hC t_1 ?_
  refine wp rfl hC t_1 ?_
  refine wp rfl hC (oc_callN hC (.cons (.tmp rfl) .nil) (.cons1 t_31 (.same t_0)) (rwords_c 8 32 key rfl hk hk8 (by decide)) glob_nil t_0 rfl t_q rfl rfl) ?_
  refine wp rfl hC (ox_append (n' := 12) (cs' := I .i64 (first0 ++ wordsN key 8)) hC (.tmp rfl) (.tmp rfl) t_35 t_a t_r Tryd.underlying77 cells_3 bytes_3 zero_3 rfl (by decide) (by rw [length_I, length_wordsN]; decide) t_t rfl (app_I (us := first0) (length_wordsN _ _)) t_n (by omega) rfl rfl) ?_
  refine wp rfl hC t_4 ?_
  refine WL_nil ?_
  refine wsr ?_
  refine wp rfl hC t_1 ?_
  refine wp rfl hC t_1 ?_
  refine wp rfl hC t_42 ?_
  refine wp rfl hC (ox_append (n' := 13) (cs' := I .i64 (first0 ++ wordsN key 8 ++ [n])) hC (.tmp rfl) (.tmp rfl) t_35 t_a t_r Tryd.underlying77 cells_3 bytes_3 zero_3 rfl (by decide) t_15 t_t rfl app_1 t_n (by omega) rfl rfl) ?_
  refine wp rfl hC t_4 ?_
  refine WL_nil ?_
  refine wsr ?_
  refine wp rfl hC t_1 ?_
  refine wp rfl hC t_1 ?_
  refine wp rfl hC (oc_callN hC (.cons (.tmp rfl) .nil) (.cons1 t_31 (.same t_0)) (rwords_c 3 12 nonce rfl hnc hc8 (by decide)) glob_nil t_0 rfl t_q rfl rfl) ?_
  refine wp rfl hC (ox_append (n' := 16) (cs' := I .i64 (firstM key n nonce)) hC (.tmp rfl) (.tmp rfl) t_35 t_a t_r Tryd.underlying77 cells_3 bytes_3 zero_3 rfl (by decide) (by rw [length_I, length_wordsN]; decide) t_t rfl ((app_I (length_wordsN _ _)).trans (by unfold firstM; rfl)) t_n (by omega) rfl rfl) ?_
  refine wp rfl hC t_4 ?_
  refine WL_weak (weak_sl (t := 7) rfl rfl) ?_
  refine WL_weak (weak_slv (t := 7) (us := I .i64 (firstM key n nonce)) rfl rfl (.here rfl) (by rw [length_I, hlF, List.drop_zero]; exact take_allI hlF) (by intro _; decide) (inSL_I _)) ?_
  refine WL_nil ?_
  refine wsr ?_
  refine wp rfl hC t_1 ?_
  refine wp rfl hC t_4 ?_
  refine WL_nil ?_
  refine W_seq ?_
  refine wsr ?_
  refine wp rfl hC t_k ?_
  refine WL_nil ?_
  refine W_blk ?_
  refine W_loopW (fun (ζ : Nat) => ⟨0, [(7, .vs 16 (I .i64 (firstM key n nonce))), (8, .vs 16 (I .i64 (cha (firstM key n nonce) ζ))), (9, .i .i64 ζ)], []⟩) (fun ζ => ζ ≤ 10) (fun ζ => 10 - ζ) (0) (by simp) (weak (fun k => k) (.cons rfl t_30 t_0 (.cons rfl (ren_vsI.trans (by rw [cha_zero])) t_0 (.cons rfl rfl trivial .nil))) .nil rfl rfl rfl) ?_
  intro k hR
  replace hR : k ≤ 10 := hR
  first | show W _ _ _ ⟨0, [(7, .vs 16 (I .i64 (firstM key n nonce))), (8, .vs 16 (I .i64 (cha (firstM key n nonce) k))), (9, .i .i64 k)], []⟩ | skip
  have hl0 : (cha (firstM key n nonce) k).length = 16 := (length_cha _ _).trans hlF
  have hw0 := W32_cha hwF k
  refine W_seq ?_
  refine wsr ?_
  refine wp rfl hC t_1 ?_
  refine wp rfl hC t_11 ?_
  refine WL_nil ?_
  refine W_cond rfl (by decide) (fun hc => ?_) (fun hc => ?_)
  ·
    replace hc := lss_t hc
    
    refine W_skip ?_
    refine W_seq ?_
    refine W_blk ?_
    refine wsr ?_
    refine wp rfl hC t_1 ?_
    refine wp rfl hC (oc_callN hC (.cons (.tmp rfl) (.cons .cint (.cons .cint (.cons .cint (.cons .cint .nil))))) (.cons1 t_31 (.cons1 (.free t_0) (.cons1 (.free t_0) (.cons1 (.free t_0) (.cons1 (.free t_0) (.same t_0)))))) (rquarter_c 16 0 4 8 12 (cha (firstM key n nonce) k) hl0 hw0 (by decide) (by decide) (by decide) (by decide) (by decide) (by decide) (by decide) (by decide) (by decide) (by decide) (by decide)) glob_nil t_0 rfl t_q rfl rfl) ?_
    have hl1 := (length_quarterL (cha (firstM key n nonce) k) 0 4 8 12).trans hl0
    have hw1 := W32_quarterL hw0 0 4 8 12
    refine wp rfl hC t_4 ?_
    refine WL_nil ?_
    refine wsr ?_
    refine wp rfl hC t_1 ?_
    refine wp rfl hC (oc_callN hC (.cons (.tmp rfl) (.cons .cint (.cons .cint (.cons .cint (.cons .cint .nil))))) (.cons1 t_31 (.cons1 (.free t_0) (.cons1 (.free t_0) (.cons1 (.free t_0) (.cons1 (.free t_0) (.same t_0)))))) (rquarter_c 16 1 5 9 13 (quarterL (cha (firstM key n nonce) k) 0 4 8 12) hl1 hw1 (by decide) (by decide) (by decide) (by decide) (by decide) (by decide) (by decide) (by decide) (by decide) (by decide) (by decide)) glob_nil t_0 rfl t_q rfl rfl) ?_
    have hl2 := (length_quarterL (quarterL (cha (firstM key n nonce) k) 0 4 8 12) 1 5 9 13).trans hl1
    have hw2 := W32_quarterL hw1 1 5 9 13
    refine wp rfl hC t_4 ?_
    refine WL_nil ?_
    refine wsr ?_
    refine wp rfl hC t_1 ?_
    refine wp rfl hC (oc_callN hC (.cons (.tmp rfl) (.cons .cint (.cons .cint (.cons .cint (.cons .cint .nil))))) (.cons1 t_31 (.cons1 (.free t_0) (.cons1 (.free t_0) (.cons1 (.free t_0) (.cons1 (.free t_0) (.same t_0)))))) (rquarter_c 16 2 6 10 14 (quarterL (quarterL (cha (firstM key n nonce) k) 0 4 8 12) 1 5 9 13) hl2 hw2 (by decide) (by decide) (by decide) (by decide) (by decide) (by decide) (by decide) (by decide) (by decide) (by decide) (by decide)) glob_nil t_0 rfl t_q rfl rfl) ?_
    have hl3 := (length_quarterL (quarterL (quarterL (cha (firstM key n nonce) k) 0 4 8 12) 1 5 9 13) 2 6 10 14).trans hl2
    have hw3 := W32_quarterL hw2 2 6 10 14
    refine wp rfl hC t_4 ?_
    refine WL_nil ?_
    refine wsr ?_
    refine wp rfl hC t_1 ?_
    refine wp rfl hC (oc_callN hC (.cons (.tmp rfl) (.cons .cint (.cons .cint (.cons .cint (.cons .cint .nil))))) (.cons1 t_31 (.cons1 (.free t_0) (.cons1 (.free t_0) (.cons1 (.free t_0) (.cons1 (.free t_0) (.same t_0)))))) (rquarter_c 16 3 7 11 15 (quarterL (quarterL (quarterL (cha (firstM key n nonce) k) 0 4 8 12) 1 5 9 13) 2 6 10 14) hl3 hw3 (by decide) (by decide) (by decide) (by decide) (by decide) (by decide) (by decide) (by decide) (by decide) (by decide) (by decide)) glob_nil t_0 rfl t_q rfl rfl) ?_
    have hl4 := (length_quarterL (quarterL (quarterL (quarterL (cha (firstM key n nonce) k) 0 4 8 12) 1 5 9 13) 2 6 10 14) 3 7 11 15).trans hl3
    have hw4 := W32_quarterL hw3 3 7 11 15
    refine wp rfl hC t_4 ?_
    refine WL_nil ?_
    refine wsr ?_
    refine wp rfl hC t_1 ?_
    refine wp rfl hC (oc_callN hC (.cons (.tmp rfl) (.cons .cint (.cons .cint (.cons .cint (.cons .cint .nil))))) (.cons1 t_31 (.cons1 (.free t_0) (.cons1 (.free t_0) (.cons1 (.free t_0) (.cons1 (.free t_0) (.same t_0)))))) (rquarter_c 16 0 5 10 15 (quarterL (quarterL (quarterL (quarterL (cha (firstM key n nonce) k) 0 4 8 12) 1 5 9 13) 2 6 10 14) 3 7 11 15) hl4 hw4 (by decide) (by decide) (by decide) (by decide) (by decide) (by decide) (by decide) (by decide) (by decide) (by decide) (by decide)) glob_nil t_0 rfl t_q rfl rfl) ?_
    have hl5 := (length_quarterL (quarterL (quarterL (quarterL (quarterL (cha (firstM key n nonce) k) 0 4 8 12) 1 5 9 13) 2 6 10 14) 3 7 11 15) 0 5 10 15).trans hl4
    have hw5 := W32_quarterL hw4 0 5 10 15
    refine wp rfl hC t_4 ?_
    refine WL_nil ?_
    refine wsr ?_
    refine wp rfl hC t_1 ?_
    refine wp rfl hC (oc_callN hC (.cons (.tmp rfl) (.cons .cint (.cons .cint (.cons .cint (.cons .cint .nil))))) (.cons1 t_31 (.cons1 (.free t_0) (.cons1 (.free t_0) (.cons1 (.free t_0) (.cons1 (.free t_0) (.same t_0)))))) (rquarter_c 16 1 6 11 12 (quarterL (quarterL (quarterL (quarterL (quarterL (cha (firstM key n nonce) k) 0 4 8 12) 1 5 9 13) 2 6 10 14) 3 7 11 15) 0 5 10 15) hl5 hw5 (by decide) (by decide) (by decide) (by decide) (by decide) (by decide) (by decide) (by decide) (by decide) (by decide) (by decide)) glob_nil t_0 rfl t_q rfl rfl) ?_
    have hl6 := (length_quarterL (quarterL (quarterL (quarterL (quarterL (quarterL (cha (firstM key n nonce) k) 0 4 8 12) 1 5 9 13) 2 6 10 14) 3 7 11 15) 0 5 10 15) 1 6 11 12).trans hl5
    have hw6 := W32_quarterL hw5 1 6 11 12
    refine wp rfl hC t_4 ?_
    refine WL_nil ?_
    refine wsr ?_
    refine wp rfl hC t_1 ?_
    refine wp rfl hC (oc_callN hC (.cons (.tmp rfl) (.cons .cint (.cons .cint (.cons .cint (.cons .cint .nil))))) (.cons1 t_31 (.cons1 (.free t_0) (.cons1 (.free t_0) (.cons1 (.free t_0) (.cons1 (.free t_0) (.same t_0)))))) (rquarter_c 16 2 7 8 13 (quarterL (quarterL (quarterL (quarterL (quarterL (quarterL (cha (firstM key n nonce) k) 0 4 8 12) 1 5 9 13) 2 6 10 14) 3 7 11 15) 0 5 10 15) 1 6 11 12) hl6 hw6 (by decide) (by decide) (by decide) (by decide) (by decide) (by decide) (by decide) (by decide) (by decide) (by decide) (by decide)) glob_nil t_0 rfl t_q rfl rfl) ?_
    have hl7 := (length_quarterL (quarterL (quarterL (quarterL (quarterL (quarterL (quarterL (cha (firstM key n nonce) k) 0 4 8 12) 1 5 9 13) 2 6 10 14) 3 7 11 15) 0 5 10 15) 1 6 11 12) 2 7 8 13).trans hl6
    have hw7 := W32_quarterL hw6 2 7 8 13
    refine wp rfl hC t_4 ?_
    refine WL_nil ?_
    refine W_region ?_
    refine wp rfl hC t_1 ?_
    refine wp rfl hC (oc_callN hC (.cons (.tmp rfl) (.cons .cint (.cons .cint (.cons .cint (.cons .cint .nil))))) (.cons1 t_31 (.cons1 (.free t_0) (.cons1 (.free t_0) (.cons1 (.free t_0) (.cons1 (.free t_0) (.same t_0)))))) (rquarter_c 16 3 4 9 14 (quarterL (quarterL (quarterL (quarterL (quarterL (quarterL (quarterL (cha (firstM key n nonce) k) 0 4 8 12) 1 5 9 13) 2 6 10 14) 3 7 11 15) 0 5 10 15) 1 6 11 12) 2 7 8 13) hl7 hw7 (by decide) (by decide) (by decide) (by decide) (by decide) (by decide) (by decide) (by decide) (by decide) (by decide) (by decide)) glob_nil t_0 rfl t_q rfl rfl) ?_
    rw [qs_8, cha_succ]
    refine wp rfl hC t_4 ?_
    refine WL_nil ?_
    refine W_region ?_
    refine wp rfl hC t_1 ?_
    refine wp rfl hC t_36 ?_
    refine wp rfl hC t_4 ?_
    refine WL_nil ?_
    exact ⟨(k + 1), (by omega), (Weak.trans (Weak.trans (weak_sl (t := 8) rfl rfl) (weak_slv (t := 8) (us := I .i64 (cha (firstM key n nonce) (k + 1))) rfl rfl (.here rfl) (by rw [length_I, List.drop_zero, (length_cha _ _).trans hlF]; exact take_allI ((length_cha _ _).trans hlF)) (by intro _; decide) (inSL_I _))) (weak (fun k => k) (.cons rfl t_30 t_0 (.cons rfl t_30 t_0 (.cons rfl t_2y trivial .nil))) .nil rfl rfl rfl)), (by omega)⟩
  ·
    replace hc := lss_f hc
    obtain rfl : k = 10 := by omega
    have hl0 : (cha (firstM key n nonce) 10).length = 16 := (length_cha _ _).trans hlF
    have hw0 := W32_cha hwF 10
    refine W_exit ?_
    refine wsr ?_
    refine wp rfl hC t_v ?_
    refine WL_nil ?_
    refine W_seq ?_
    refine wsr ?_
    refine wp rfl hC t_k ?_
    refine WL_nil ?_
    refine W_blk ?_
    refine W_weak (weak_nil (t := 10) (e := 5) (sz := 1) rfl) ?_
    refine W_loopW (fun (ζ : Nat) => ⟨1, [(7, .vs 16 (I .i64 (firstM key n nonce))), (8, .vs 16 (I .i64 (cha (firstM key n nonce) 10))), (10, .row 0), (11, .i .i64 ζ)], [(0, .row 5 1 (4 * ζ) (I .u8 (outN (sumL (cha (firstM key n nonce) 10) (firstM key n nonce)) (4 * ζ))))]⟩) (fun ζ => ζ ≤ 16) (fun ζ => 16 - ζ) (0) (by simp) (weak (fun k => k) (.cons rfl t_30 t_0 (.cons rfl t_30 t_0 (.cons rfl t_5 t_6 (.cons rfl rfl trivial .nil)))) (.cons rfl (renRow (l' := []) rfl outN_zero) rfl t_0 .nil) rfl rfl rfl) ?_
    intro i hR
    replace hR : i ≤ 16 := hR
    first | show W _ _ _ ⟨1, [(7, .vs 16 (I .i64 (firstM key n nonce))), (8, .vs 16 (I .i64 (cha (firstM key n nonce) 10))), (10, .row 0), (11, .i .i64 i)], [(0, .row 5 1 (4 * i) (I .u8 (outN (sumL (cha (firstM key n nonce) 10) (firstM key n nonce)) (4 * i))))]⟩ | skip
    have h1 := hw0.get i
    have h2 := hwF.get i
    have h3 := sum_range (s := cha (firstM key n nonce) 10) (t := (firstM key n nonce)) i
    have h4 := sum_get (s := cha (firstM key n nonce) 10) (t := (firstM key n nonce)) (i := i)
    refine W_seq ?_
    refine wsr ?_
    refine wp rfl hC t_1 ?_
    refine wp rfl hC t_11 ?_
    refine WL_nil ?_
    refine W_cond rfl (by decide) (fun hc => ?_) (fun hc => ?_)
    ·
      replace hc := lss_t hc
      
      refine W_skip ?_
      refine W_seq ?_
      refine W_blk ?_
      refine W_seq ?_
      refine W_drawD hC ?_
      refine WD_cons (.plain rfl t_1) ?_
      refine WD_cons (.plain rfl t_1) ?_
      refine WD_cons (.plain rfl t_6g) ?_
      refine WD_cons (.plain rfl t_6m) ?_
      refine WD_cons (.plain rfl t_1) ?_
      refine WD_cons (.plain rfl t_1) ?_
      refine WD_cons (.plain rfl t_6g) ?_
      refine WD_cons (.plain rfl t_6m) ?_
      refine WD_cons (.plain rfl t_3p) ?_
      refine WD_cons (.plain rfl t_4z) ?_
      rw [show ((cha (firstM key n nonce) 10).getD i 0 + (firstM key n nonce).getD i 0) % 4294967296 = (sumL (cha (firstM key n nonce) 10) (firstM key n nonce)).getD i 0 from (h4 (by omega)).symm]
      generalize hw : (sumL (cha (firstM key n nonce) 10) (firstM key n nonce)).getD i 0 = wd at *
      refine WD_cons (.plain rfl t_4) ?_
      refine WD_nil t_x ?_
      refine W_region ?_
      refine wp rfl hC t_1 ?_
      refine wp rfl hC t_1 ?_
      refine wp rfl hC t_45 ?_
      refine wp rfl hC t_47 ?_
      refine wp rfl hC t_1 ?_
      refine wp rfl hC t_4j ?_
      refine wp rfl hC t_45 ?_
      refine wp rfl hC t_47 ?_
      refine wp rfl hC t_1 ?_
      refine wp rfl hC t_4j ?_
      refine wp rfl hC t_45 ?_
      refine wp rfl hC t_47 ?_
      refine wp rfl hC t_1 ?_
      refine wp rfl hC t_4j ?_
      refine wp rfl hC t_47 ?_
      refine wp rfl hC t_60 ?_
      refine wp rfl hC (ox_append (n' := 4 * i + 4) (cs' := I .u8 (outN (sumL (cha (firstM key n nonce) 10) (firstM key n nonce)) (4 * i) ++ [wd % 256, wd / 256 % 256, wd / 65536 % 256, wd / 16777216])) hC (.tmp rfl) (.tmp rfl) t_35 t_a t_r Tryd.underlying22 cells_5 bytes_5 zero_5 rfl (by decide) t_15 t_t rfl app_4 t_n (by omega) rfl rfl) ?_
      refine wp rfl hC t_4 ?_
      refine WL_nil ?_
      refine W_region ?_
      refine wp rfl hC t_1 ?_
      refine wp rfl hC t_36 ?_
      refine wp rfl hC t_4 ?_
      refine WL_nil ?_
      exact ⟨(i + 1), (by omega), (weak (fun k => bif Nat.beq k 0 then 1 else k) (.cons rfl t_30 t_0 (.cons rfl t_30 t_0 (.cons rfl t_5 t_6 (.cons rfl t_2y trivial .nil)))) (.cons rfl (renRow (by omega) (by rw [show 4 * (i + 1) = 4 * i + 4 by omega, outN_4 hw h3])) rfl t_0 .nil) rfl rfl rfl), (by omega)⟩
    ·
      replace hc := lss_f hc
      obtain rfl : i = 16 := by omega
      rw [show 4 * 16 = 64 from rfl, blk_out]
      refine W_exit ?_
      refine wsr ?_
      refine wp rfl hC t_1 ?_
      refine wp rfl hC t_4 ?_
      refine WL_nil ?_
      refine W_ret ?_
      exact fin1 (.cons (.tmp rfl) .nil) rfl rfl (inSL_I _)
set_option maxRecDepth 20000 in
set_option maxHeartbeats 4000000 in
theorem rxorb_c (nb : Nat) (b : List Int) (key nonce : List Int) (n : Int) (hk : key.length = 32) (hnc : nonce.length = 12) (hk8 : B8 key) (hc8 : B8 nonce) (hn : 0 ≤ n ∧ n < 4294967296) (hb : b.length = nb) (hb8 : B8 b) (hl : nb ≤ 1099511627776) : FnC Tryd.prog 39 [] [.vs 32 (I .u8 key), .i .i64 n, .vs 12 (I .u8 nonce), .vs nb (I .u8 b)] [] [(0, .row 5 1 nb (I .u8 (xorM key n nonce b)))] (.row 0) := by
  refine FnC.introR (N0 := 0) (T := 43) (E := [(0, .vs 32 (I .u8 key)), (1, .i .i64 n), (2, .vs 12 (I .u8 nonce)), (3, .vs nb (I .u8 b))]) Tryd.func39 rfl (by decide) mix rfl rfl rfl (by simp) rfl ⟨t_b, t_b, t_b, t_b, trivial⟩ (by simp) (by
        intro S ha hr hw
        have s0 : S 0 := hw 0 t_17 t_5
        refine ⟨by first | exact inSL_I _ | simp [s0], fun k b hm => ?_⟩
        simp only [List.mem_cons, Prod.mk.injEq, List.not_mem_nil, or_false] at hm
        rcases hm with ⟨rfl, rfl⟩
        · exact ⟨s0, by first | exact inSL_I _ | simp [s0]⟩) (fun F n0 X w ρ hC hro => ?_)
  refine wsr ?_
  refine wp rfl hC t_v ?_
  refine WL_nil ?_
  refine wsr ?_
  refine wp rfl hC t_v ?_
  refine WL_nil ?_
  refine wsr ?_
  refine wp rfl hC t_v ?_
  refine WL_nil ?_
  refine W_seq ?_
  refine wsr ?_
  refine wp rfl hC t_k ?_
  refine WL_nil ?_
  refine W_blk ?_
  refine W_weak (weak_nil (t := 9) (e := 5) (sz := 1) rfl) ?_
  refine W_loopW (fun (ζ : Nat × List Int) => ⟨1, [(0, .vs 32 (I .u8 key)), (1, .i .i64 n), (2, .vs 12 (I .u8 nonce)), (3, .vs nb (I .u8 b)), (9, .row 0), (10, .vs ζ.2.length (I .u8 ζ.2)), (11, .i .i64 ζ.1)], [(0, .row 5 1 ζ.1 (I .u8 (xV key n nonce b ζ.1)))]⟩) (fun ζ => ζ.1 ≤ nb ∧ (ζ.1 % 64 ≠ 0 → ζ.2 = (blkM key (nn n (ζ.1 / 64)) nonce))) (fun ζ => nb - ζ.1) (0, []) ⟨Nat.zero_le _, fun h => absurd rfl h⟩ (Weak.trans (weak_nilv (t := 10) rfl) (weak (fun k => k) (.cons rfl t_30 t_0 (.cons rfl t_2y trivial (.cons rfl t_30 t_0 (.cons rfl t_30 t_0 (.cons rfl t_5 t_6 (.cons rfl rfl t_0 (.cons rfl rfl trivial .nil))))))) (.cons rfl (renRow (l' := []) rfl xV_zero) rfl t_0 .nil) rfl rfl rfl)) ?_
  rintro ⟨k, X⟩ hR
  replace hR : k ≤ nb ∧ (k % 64 ≠ 0 → X = (blkM key (nn n (k / 64)) nonce)) := hR
  obtain ⟨hkn, hX⟩ := hR
  first | show W _ _ _ ⟨1, [(0, .vs 32 (I .u8 key)), (1, .i .i64 n), (2, .vs 12 (I .u8 nonce)), (3, .vs nb (I .u8 b)), (9, .row 0), (10, .vs X.length (I .u8 X)), (11, .i .i64 k)], [(0, .row 5 1 k (I .u8 (xV key n nonce b k)))]⟩ | skip
  refine W_seq ?_
  refine wsr ?_
  refine wp rfl hC t_1 ?_
  refine wp rfl hC t_1 ?_
  refine wp rfl hC t_32 ?_
  refine wp rfl hC t_1e ?_
  refine WL_nil ?_
  refine W_cond rfl (by decide) (fun hc => ?_) (fun hc => ?_)
  ·
    replace hc := lss_t hc
    
    refine W_skip ?_
    refine W_seq ?_
    refine W_blk ?_
    refine W_seq ?_
    refine wsr ?_
    refine wp rfl hC t_1 ?_
    refine wp rfl hC (oc_div hC (.inr rfl) (.tmp rfl) .cint t_j (r := ((k % 64 : Nat) : Int)) (nrem (y := 64)) rfl rfl) ?_
    refine wp rfl hC t_11 ?_
    refine WL_nil ?_
    refine W_join (fun (ζ : List Int) => ⟨1, [(0, .vs 32 (I .u8 key)), (1, .i .i64 n), (2, .vs 12 (I .u8 nonce)), (3, .vs nb (I .u8 b)), (9, .row 0), (10, .vs ζ.length (I .u8 ζ)), (11, .i .i64 k)], [(0, .row 5 1 k (I .u8 (xV key n nonce b k)))]⟩) (fun ζ => ζ = (blkM key (nn n (k / 64)) nonce)) ?_ ?_
    ·
      refine W_cond rfl (by decide) (fun hc => ?_) (fun hc => ?_)
      ·
        replace hc := eql_t hc
        refine W_region ?_
        refine wp rfl hC t_1 ?_
        refine wp rfl hC t_1 ?_
        refine wp rfl hC t_1 ?_
        refine wp rfl hC (oc_div hC (.inl rfl) (.tmp rfl) .cint t_j (r := ((k / 64 : Nat) : Int)) (nquo (y := 64) (by omega) (by decide)) rfl rfl) ?_
        refine wp rfl hC t_3p ?_
        refine wp rfl hC t_4z ?_
        rw [show (n + ((k / 64 : Nat) : Int)) % 4294967296 = nn n (k / 64) by unfold nn; rfl]
        refine wp rfl hC t_1 ?_
        refine wp rfl hC (oc_callN hC (.cons (.tmp rfl) (.cons (.tmp rfl) (.cons (.tmp rfl) .nil))) (.cons1 t_31 (.cons1 (.free t_0) (.cons1 t_31 (.same t_0)))) (rblock_c _ _ _ hk hnc hk8 hc8 nn_range) glob_nil t_0 rfl t_q rfl rfl) ?_
        refine wp rfl hC t_4 ?_
        refine WL_nil ?_
        exact ⟨((blkM key (nn n (k / 64)) nonce)), rfl, (Weak.trans (Weak.trans (weak_sl (t := 10) rfl rfl) (weak_slv (t := 10) (us := I .u8 (blkM key (nn n (k / 64)) nonce)) rfl rfl (.here rfl) (by rw [length_I, List.drop_zero]; exact take_allI rfl) (by intro _; decide) (inSL_I _))) (weak (fun k => k) (.cons rfl t_30 t_0 (.cons rfl t_2y trivial (.cons rfl t_30 t_0 (.cons rfl t_30 t_0 (.cons rfl t_5 t_6 (.cons rfl (ren_vsI.trans (by rw [length_blk])) t_0 (.cons rfl t_2y trivial .nil))))))) (.cons rfl (renRow rfl rfl) rfl t_0 .nil) rfl rfl rfl))⟩
      ·
        replace hc := eql_f hc
        refine W_skip ?_
        exact ⟨(X), (hX (by omega)), (weak (fun k => k) (.cons rfl t_30 t_0 (.cons rfl t_2y trivial (.cons rfl t_30 t_0 (.cons rfl t_30 t_0 (.cons rfl t_5 t_6 (.cons rfl t_30 t_0 (.cons rfl t_2y trivial .nil))))))) (.cons rfl (renRow rfl rfl) rfl t_0 .nil) rfl rfl rfl)⟩
    ·
      intro Y hR
      replace hR : Y = (blkM key (nn n (k / 64)) nonce) := hR
      first | show W _ _ _ ⟨1, [(0, .vs 32 (I .u8 key)), (1, .i .i64 n), (2, .vs 12 (I .u8 nonce)), (3, .vs nb (I .u8 b)), (9, .row 0), (10, .vs Y.length (I .u8 Y)), (11, .i .i64 k)], [(0, .row 5 1 k (I .u8 (xV key n nonce b k)))]⟩ | skip
      replace hY : Y = (blkM key (nn n (k / 64)) nonce) := hR
      have hlY : Y.length = 64 := by rw [hY]; exact length_blk _ _ _
      refine W_drawD hC ?_
      refine WD_cons (.plain rfl t_1) ?_
      refine WD_cons (.plain rfl t_1) ?_
      refine WD_cons (.plain rfl t_1) ?_
      refine WD_cons (.plain rfl t_7b) ?_
      refine WD_cons (.plain rfl t_6l) ?_
      refine WD_cons (.plain rfl t_1) ?_
      refine WD_cons (.plain rfl t_1) ?_
      refine WD_cons (.plain rfl (oc_div hC (.inr rfl) (.tmp rfl) .cint t_j (r := ((k % 64 : Nat) : Int)) (nrem (y := 64)) rfl rfl)) ?_
      refine WD_cons (.plain rfl (ox_indexS hC  (.tmp rfl) (.tmp rfl) idx_22 t_u t_d t_33 (by omega) rfl rfl)) ?_
      refine WD_cons (.plain rfl t_6l) ?_
      refine WD_cons (.plain rfl t_1h) ?_
      refine WD_cons (.plain rfl t_3v) ?_
      refine WD_cons (.plain rfl t_6o) ?_
      refine WD_cons (.plain rfl t_4) ?_
      refine WD_nil t_x ?_
      refine W_region ?_
      refine wp rfl hC t_1 ?_
      refine wp rfl hC t_36 ?_
      refine wp rfl hC t_4 ?_
      refine WL_nil ?_
      exact ⟨(k + 1, Y), ⟨by omega, fun h => by rw [hY, show (k + 1) / 64 = k / 64 by omega]⟩, (weak (fun k => bif Nat.beq k 0 then 1 else k) (.cons rfl t_30 t_0 (.cons rfl t_2y trivial (.cons rfl t_30 t_0 (.cons rfl t_30 t_0 (.cons rfl t_5 t_6 (.cons rfl t_30 t_0 (.cons rfl t_2y trivial .nil))))))) (.cons rfl (renRow rfl (by rw [xV_succ, hY])) rfl t_0 .nil) rfl rfl rfl), (by show nb - (k + 1) < nb - k; omega)⟩
  ·
    replace hc := lss_f hc
    obtain rfl : k = nb := by omega
    refine W_exit ?_
    refine wsr ?_
    rw [xV_end hb]
    refine wp rfl hC t_1 ?_
    refine wp rfl hC t_4 ?_
    refine WL_nil ?_
    refine W_ret ?_
    exact fin1 (.cons (.tmp rfl) .nil) rfl rfl (inSL_I _)
end Go.Proofs.YtfngpppghlbanaaDoor
