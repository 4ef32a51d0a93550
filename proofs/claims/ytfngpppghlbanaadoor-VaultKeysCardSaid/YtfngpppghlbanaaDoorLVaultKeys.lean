/- Own work, printed by a program of this claim: walks through functions of the program. -/
import Derived.Test.YtfngpppghlbanaaDoorW9
import Derived.Test.YtfngpppghlbanaaDoorProg
import Derived.KernelRfl
set_option linter.unusedSimpArgs false
set_option linter.unusedVariables false
namespace Go.Proofs.YtfngpppghlbanaaDoor
open Go.Sk Go.RowKit
attribute [local simp] AV.inSL AV.inS inSL_I Blk.inS Blk.cs AV.novs AV.novsL novsL_I AV.ren AV.cells AV.one lk tuAV


set_option maxRecDepth 20000 in
set_option maxHeartbeats 4000000 in
theorem law_VaultKeys (se : List Int) (bse : B8 se) (id : List Int) (hid : id.length = 16) (bid : B8 id) (k n o m : Int) (hn : -9223372036854775808 ≤ n ∧ n ≤ 9223372036854775807) (ho : 0 ≤ o ∧ o < 256) (hm : -9223372036854775808 ≤ m ∧ m ≤ 9223372036854775807) : FnC Tryd.prog 3 [(1000000, .rp (I .u32 tbl))] [.vs se.length (I .u8 se), .ag (I .u8 id), .i .i64 k, .i .i64 n, .i .u8 o, .i .i64 m] [] [] (.b true) := by
  have hvl := length_vkey se id
  have hnl := length_vnon k n
  have hiff := vnon_iff (k := o) (k' := k) hm hn
  have ho2 : o % 256 = o := by omega
  rw [ho2] at hiff
  refine FnC.introR (N0 := 0) (T := 60) (E := [(0, .vs se.length (I .u8 se)), (1, .ag (I .u8 id)), (2, .i .i64 k), (3, .i .i64 n), (4, .i .u8 o), (5, .i .i64 m), (1000000, .rp (I .u32 tbl))]) Tryd.func3 rfl (by decide) mix rfl rfl rfl (by simp) rfl ⟨t_b, t_b, t_b, t_b, t_b, t_b, trivial⟩ (by simp) t_10 (fun F n0 X w ρ hC hro => ?_)
  refine wsr ?_
  refine wp rfl hC t_3j ?_
  refine wp rfl hC t_1d ?_
  refine WL_nil ?_
  refine W_seq ?_
  refine W_seq ?_
  rcases (show (60 < se.length) ∨ (se.length ≤ 60) by omega) with h_ | h_
  ·
    refine W_region ?_
    refine wp rfl hC t_1 ?_
    refine wp rfl hC t_32 ?_
    refine wp rfl hC t_3b ?_
    refine WL_nil ?_
    refine W_cond rfl (by decide) (fun _ => ?_) (fun hc => by cases hc)
    refine wsr ?_
    refine wp rfl hC t_3l ?_
    refine wp rfl hC t_4 ?_
    refine WL_nil ?_
    refine W_ret ?_
    exact fin0 (.cons (.tmp rfl) .nil) rfl trivial
  ·
    refine W_region ?_
    refine wp rfl hC t_1 ?_
    refine wp rfl hC t_32 ?_
    refine wp rfl hC t_37 ?_
    refine WL_nil ?_
    refine W_cond rfl (by decide) (fun hc => by cases hc) (fun _ => ?_)
    refine W_skip ?_
    refine wsr ?_
    refine wp rfl hC t_1 ?_
    refine wp rfl hC (oc_load hC (v := .ag (I .u8 id)) (.tmp rfl) t_3 shp_23 (by exact (unit_all hid)) rfl rfl) ?_
    refine wp rfl hC (oc_call hC (.cons (.tmp rfl) (.cons (.tmp rfl) .nil)) (.cons1 t_31 (.cons1 (.free t_0) (.same t_0))) (vkey_c se bse (by omega) id hid bid) (glob_cons rfl rfl t_0 glob_nil) t_0 t_8 rfl rfl) ?_
    refine wp rfl hC t_1 ?_
    refine wp rfl hC t_1 ?_
    refine wp rfl hC t_5e ?_
    refine wp rfl hC t_22 ?_
    refine wp rfl hC (ox_alloc hC zero_27 rfl rfl rfl) ?_
    refine wp rfl hC t_62 ?_
    refine wp rfl hC t_61 ?_
    refine WL_nil ?_
    refine W_seq ?_
    refine W_seq ?_
    refine W_drawD hC ?_
    refine WD_cons (.plain rfl t_7m) ?_
    refine WD_cons (.plain rfl t_5y) ?_
    refine WD_cons (.plain rfl t_1) ?_
    refine WD_cons (.plain rfl t_73) ?_
    refine WD_cons (.plain rfl (oc_callN hC (.cons (.tmp rfl) (.cons (.tmp rfl) .nil)) (.cons1 (.free (inSL_I _)) (.cons1 (.sl1 rfl (by rw [List.drop_zero]; exact take_allI hid) (inSL_I _)) (.same (by simp)))) (rvkey_c se bse (by omega) id hid bid) glob_nil t_0 rfl t_q rfl rfl)) ?_
    refine WD_cons (.plain rfl t_5y) ?_
    refine WD_cons (.plain rfl t_2n) ?_
    refine WD_cons (.plain rfl t_1) ?_
    refine WD_cons (.yes rfl rfl (by decide) rfl (ox_cutA hC (.tmp rfl) .no .no idx_27 t_2 t_2 t_3n t_1b rfl rfl)) ?_
    refine WD_cons (.yes rfl rfl (by decide) rfl (ox_b2s (l := (vnon k n)) hC (.tmp rfl) t_a (by rw [List.drop_zero]; exact take_allI hnl) hnl Tryd.underlying22 Tryd.underlying5 Tryd.underlying9 rfl rfl)) ?_
    refine WD_cons t_3d ?_
    refine WD_cons t_3d ?_
    refine WD_cons (.yes rfl rfl (by decide) rfl t_5x) ?_
    refine WD_cons (.yes rfl rfl (by decide) rfl (ox_b2s (l := (vnon k n)) hC (.tmp rfl) t_a (take_allI hnl) hnl Tryd.underlying22 Tryd.underlying5 Tryd.underlying9 rfl rfl)) ?_
    refine WD_cons (.yes rfl rfl (by decide) rfl t_2n) ?_
    refine WD_cons (.plain rfl t_3f) ?_
    refine WD_nil t_x ?_
    refine W_cond rfl (by decide) (fun hc => by cases hc) (fun _ => ?_)
    refine W_skip ?_
    refine W_seq ?_
    rcases (show (o = k % 256 ∧ m = n) ∨ (o = k % 256 ∧ m ≠ n) ∨ (o ≠ k % 256) by omega) with ⟨c1, c2⟩ | ⟨c1, c2⟩ | c1
    ·
      have hq : (vnon o m) = (vnon k n) := hiff.2 ⟨c1, c2⟩
      refine W_drawD hC ?_
      refine WD_cons (.plain rfl t_1) ?_
      refine WD_cons (.plain rfl t_2o) ?_
      refine WD_cons (.plain rfl t_1) ?_
      refine WD_cons (.plain rfl t_5p) ?_
      refine WD_cons (.plain rfl t_5m) ?_
      refine WD_cons (.plain rfl (ox_eqI (r := true) hC (.inl rfl) (.tmp rfl) (.tmp rfl) sh_27 kt_27 sg_27 eg_27 (length_vnon _ _) hnl (wf_u8 (B8_vnon _ _)) (wf_u8 (B8_vnon _ _)) (by simp [hq]) rfl rfl)) ?_
      refine WD_cons (.plain rfl t_1) ?_
      refine WD_cons (.plain rfl t_2h) ?_
      refine WD_cons (.plain rfl t_1) ?_
      refine WD_cons (.plain rfl t_3u) ?_
      refine WD_cons (.plain rfl t_1) ?_
      refine WD_cons t_3d ?_
      refine WD_cons t_3d ?_
      refine WD_cons (.yes rfl rfl (by decide) rfl t_3u) ?_
      refine WD_cons (.plain rfl t_2z) ?_
      refine WD_cons (.plain rfl t_2p) ?_
      refine WD_cons (.plain rfl t_1) ?_
      refine WD_cons t_6u ?_
      refine WD_cons (.plain rfl t_2z) ?_
      refine WD_cons (.plain rfl t_4) ?_
      refine WD_nil t_x ?_
      refine W_ret ?_
      exact fin0 (.cons (.tmp rfl) .nil) rfl trivial
    ·
      have hq : (vnon o m) ≠ (vnon k n) := fun e => c2 (hiff.1 e).2
      refine W_drawD hC ?_
      refine WD_cons (.plain rfl t_1) ?_
      refine WD_cons (.plain rfl t_2o) ?_
      refine WD_cons (.plain rfl t_1) ?_
      refine WD_cons (.plain rfl t_5p) ?_
      refine WD_cons (.plain rfl t_5m) ?_
      refine WD_cons (.plain rfl t_2w) ?_
      refine WD_cons (.plain rfl t_1) ?_
      refine WD_cons (.plain rfl t_2h) ?_
      refine WD_cons (.plain rfl t_1) ?_
      refine WD_cons (.plain rfl t_3u) ?_
      refine WD_cons (.plain rfl t_1) ?_
      refine WD_cons t_3d ?_
      refine WD_cons t_3d ?_
      refine WD_cons t_7c ?_
      refine WD_cons (.plain rfl t_2z) ?_
      refine WD_cons (.plain rfl t_2p) ?_
      refine WD_cons (.plain rfl t_1) ?_
      refine WD_cons t_6u ?_
      refine WD_cons (.plain rfl t_2z) ?_
      refine WD_cons (.plain rfl t_4) ?_
      refine WD_nil t_x ?_
      refine W_ret ?_
      exact fin0 (.cons (.tmp rfl) .nil) rfl trivial
    ·
      have hq : (vnon o m) ≠ (vnon k n) := fun e => c1 (hiff.1 e).1
      refine W_drawD hC ?_
      refine WD_cons (.plain rfl t_1) ?_
      refine WD_cons (.plain rfl t_2o) ?_
      refine WD_cons (.plain rfl t_1) ?_
      refine WD_cons (.plain rfl t_5p) ?_
      refine WD_cons (.plain rfl t_5m) ?_
      refine WD_cons (.plain rfl t_2w) ?_
      refine WD_cons (.plain rfl t_1) ?_
      refine WD_cons (.plain rfl t_2h) ?_
      refine WD_cons (.plain rfl t_1) ?_
      refine WD_cons (.plain rfl t_41) ?_
      refine WD_cons (.plain rfl t_1) ?_
      refine WD_cons (.no (s1 := ⟨_, (52, .tu []) :: _, _⟩) rfl rfl (by decide) rfl (by decide) (dst_ok rfl rfl) (fun t => setE_cons _ _ _ _) rfl rfl) ?_
      refine WD_cons (.no (s1 := ⟨_, (53, .tu []) :: _, _⟩) rfl rfl (by decide) rfl (by decide) (dst_ok rfl rfl) (fun t => setE_cons _ _ _ _) rfl rfl) ?_
      refine WD_cons (.no (s1 := ⟨_, (54, .tu []) :: _, _⟩) rfl rfl (by decide) rfl (by decide) (dst_ok rfl rfl) (fun t => setE_cons _ _ _ _) rfl rfl) ?_
      refine WD_cons (.plain rfl t_2z) ?_
      refine WD_cons (.plain rfl t_2p) ?_
      refine WD_cons (.plain rfl t_1) ?_
      refine WD_cons t_6u ?_
      refine WD_cons (.plain rfl t_2z) ?_
      refine WD_cons (.plain rfl t_4) ?_
      refine WD_nil t_x ?_
      refine W_ret ?_
      exact fin0 (.cons (.tmp rfl) .nil) rfl trivial
end Go.Proofs.YtfngpppghlbanaaDoor
