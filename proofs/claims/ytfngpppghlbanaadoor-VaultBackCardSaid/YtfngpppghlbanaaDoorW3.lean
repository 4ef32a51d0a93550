/- Own work, printed by a program of this claim: walks through functions of the program. -/
import Derived.Test.YtfngpppghlbanaaDoorW2
import Derived.Test.YtfngpppghlbanaaDoorProg
import Derived.KernelRfl
set_option linter.unusedSimpArgs false
set_option linter.unusedVariables false
namespace Go.Proofs.YtfngpppghlbanaaDoor
open Go.Sk Go.RowKit
attribute [local simp] AV.inSL AV.inS inSL_I Blk.inS Blk.cs AV.novs AV.novsL novsL_I AV.ren AV.cells AV.one lk tuAV
theorem bytes_22 : (Tryd.prog.info? 22).map (·.bytes) = some 24 := by kernel_rfl
theorem cells_22 : Tryd.prog.cellsOf 22 = 1 := by kernel_rfl
theorem size_5 : (Tryd.prog.info? 5).map (·.size) = some 1 := by kernel_rfl
theorem zero_22 : zeroAV Tryd.prog 22 = some [.nils] := by kernel_rfl
set_option maxRecDepth 20000 in
set_option maxHeartbeats 4000000 in
theorem padded_c (n : Nat) (key : List Int) (b : Int) (hn : key.length = n) (hk : B8 key) (hl : n ≤ 1099511627776) : FnC Tryd.prog 45 [(1000000, .rp (I .u32 tbl))] [.vs n (I .u8 key), .i .u8 b] [] [(0, .row 5 1 64 (I .u8 (padK key b)))] (.row 0) := by
  have hl64 := length_key64 key
  have hz := length_zpad key
  refine FnC.introR (N0 := 0) (T := 31) (E := [(0, .vs n (I .u8 key)), (1, .i .u8 b), (1000000, .rp (I .u32 tbl))]) Tryd.func45 rfl (by decide) mix rfl rfl rfl (by simp) rfl ⟨t_b, t_b, trivial⟩ (by simp) (by
        intro S ha hr hw
        have s0 : S 0 := hw 0 t_17 t_5
        refine ⟨by first | exact inSL_I _ | simp [s0], fun k b hm => ?_⟩
        simp only [List.mem_cons, Prod.mk.injEq, List.not_mem_nil, or_false] at hm
        rcases hm with ⟨rfl, rfl⟩
        · exact ⟨s0, by first | exact inSL_I _ | simp [s0]⟩) (fun F n0 X w ρ hC hro => ?_)
  refine wsr ?_
  refine wp rfl hC t_v ?_
  refine WL_nil ?_
  refine W_seq ?_
  refine wsr ?_
  refine wp rfl hC t_1 ?_
  refine wp rfl hC t_32 ?_
  refine wp rfl hC t_11 ?_
  refine WL_nil ?_
  refine W_join (fun (ζ : Unit) => ⟨1, [(0, .vs (key64 key).length (I .u8 (key64 key))), (1, .i .u8 b), (1000000, .rp (I .u32 tbl))], []⟩) (fun ζ => True) ?_ ?_
  ·
    refine W_cond rfl (by decide) (fun hc => ?_) (fun hc => ?_)
    ·
      replace hc := gtr_t hc
      
      refine wsr ?_
      refine wp rfl hC t_1 ?_
      refine wp rfl hC (ox_lit hC (.cons (.tmp rfl) .nil) Tryd.underlying68 cells_22 zero_22 rfl (by decide) rfl rfl t_5 rfl rfl) ?_
      refine wp rfl hC (oc_call hC (.cons (.tmp rfl) .nil) (.cons1 t_31 (.same t_0)) (of_c [(n, key)] 1 rfl (by decide) (by intro p hp; simp only [List.mem_cons, List.not_mem_nil, or_false] at hp; subst hp; exact ⟨hn, hk⟩) t_7) (glob_cons rfl rfl t_0 glob_nil) t_0 t_8 rfl rfl) ?_
      rw [show (List.map (·.2) [(n, key)]).flatten = key by simp, key_sha (by omega)]
      have h32 : (key64 key).length = 32 := by rw [← key_sha (by omega)]; exact length_sha _ _
      refine wp rfl hC t_22 ?_
      refine wp rfl hC (ox_store hC (.tmp rfl) (.tmp rfl) rfl shp_25 t_h t_18 t_s t_4o t_f rfl) ?_
      refine WL_nil ?_
      refine W_region ?_
      refine wp rfl hC t_7m ?_
      refine wp rfl hC t_4 ?_
      refine WL_nil ?_
      exact ⟨(), trivial, (Weak.trans (weak_slv (t := 0) (us := I .u8 (key64 key)) rfl rfl (.here rfl) (by rw [length_I, h32, List.drop_zero]; exact take_allI h32) (by intro _; decide) (inSL_I _)) (weak (fun k => k) (.cons rfl (ren_vsI.trans (by rw [h32])) t_0 (.cons rfl t_2y trivial (.cons rfl t_30 t_0 .nil))) .nil rfl rfl rfl))⟩
    ·
      replace hc := gtr_f hc
      
      refine W_skip ?_
      exact ⟨(), trivial, (weak (fun k => k) (.cons rfl (ren_vsI.trans (by rw [← key_same (by omega), hn])) t_0 (.cons rfl t_2y trivial (.cons rfl t_30 t_0 .nil))) .nil rfl rfl rfl)⟩
  ·
    rintro ⟨⟩ hR
    first | show W _ _ _ ⟨1, [(0, .vs (key64 key).length (I .u8 (key64 key))), (1, .i .u8 b), (1000000, .rp (I .u32 tbl))], []⟩ | skip
    refine wsr ?_
    refine wp rfl hC (ox_make (n := 64) (cs' := I .u8 (List.replicate 64 0)) hC .cint .cint t_26 t_26 Tryd.underlying22 cells_5 bytes_5 zero_5 (by decide) t_n (by omega) (by first | exact zeros_I | rfl) rfl rfl) ?_
    refine wp rfl hC t_4 ?_
    refine WL_nil ?_
    refine wsr ?_
    refine wp rfl hC t_1 ?_
    refine wp rfl hC t_1 ?_
    refine wp rfl hC (ox_copy (us := I .u8 (key64 key)) (cnt := (key64 key).length) (bk' := .row 5 1 64 (I .u8 (zpad key))) hC (.tmp rfl) (by first | exact .row rfl | exact .sl rfl) (.tmp rfl) t_a rfl Tryd.underlying22 size_5 (Nat.min_eq_left hl64) (take_allI rfl) length_I (by first | exact one_takeI | exact one_I | rfl) t_7 ((put_copy t_7).trans (by rw [zrep])) t_f rfl rfl) ?_
    refine WL_nil ?_
    refine W_seq ?_
    refine wsr ?_
    refine wp rfl hC t_1l ?_
    refine WL_nil ?_
    refine W_blk ?_
    refine W_loopW (fun (ζ : Nat) => ⟨2, [(1, .i .u8 b), (6, .row 1), (19, .i .i64 ζ), (1000000, .rp (I .u32 tbl))], [(1, .row 5 1 64 (I .u8 (padP8 (zpad key) b ζ)))]⟩) (fun ζ => ζ ≤ 64) (fun ζ => 64 - ζ) (0) (by simp) (weak (fun k => k) (.cons rfl t_2y trivial (.cons rfl t_5 t_6 (.cons rfl rfl trivial (.cons rfl t_30 t_0 .nil)))) (.cons rfl (renRow rfl padP8_zero) rfl t_0 .nil) rfl rfl rfl) ?_
    intro i hR
    replace hR : i ≤ 64 := hR
    first | show W _ _ _ ⟨2, [(1, .i .u8 b), (6, .row 1), (19, .i .i64 i), (1000000, .rp (I .u32 tbl))], [(1, .row 5 1 64 (I .u8 (padP8 (zpad key) b i)))]⟩ | skip
    have hlp := length_padP8 (k := zpad key) (b := b) (i := i) hz (by omega)
    refine wsr ?_
    refine wp rfl hC t_11 ?_
    refine WL_nil ?_
    refine W_seq ?_
    refine W_cond rfl (by decide) (fun hc => ?_) (fun hc => ?_)
    ·
      replace hc := lss_t hc
      
      refine W_skip ?_
      refine W_seq ?_
      refine W_blk ?_
      refine wsr ?_
      refine wp rfl hC t_1 ?_
      refine wp rfl hC t_4 ?_
      refine WL_nil ?_
      refine W_region ?_
      refine wp rfl hC t_1 ?_
      refine wp rfl hC t_1 ?_
      refine wp rfl hC t_7b ?_
      refine wp rfl hC t_5k ?_
      refine wp rfl hC t_1 ?_
      refine wp rfl hC t_1h ?_
      refine wp rfl hC t_7b ?_
      refine wp rfl hC (ox_store hC (.tmp rfl) (.tmp rfl) rfl shp_5 t_h t_18 t_s (put_rowI (by omega)) t_f rfl) ?_
      refine WL_nil ?_
      refine W_region ?_
      refine wp rfl hC t_36 ?_
      refine wp rfl hC t_1 ?_
      refine WL_nil ?_
      exact ⟨(i + 1), (by omega), (weak (fun k => k) (.cons rfl t_2y trivial (.cons rfl t_5 t_6 (.cons rfl t_2y trivial (.cons rfl t_30 t_0 .nil)))) (.cons rfl (renRow rfl (by rw [padP8_get hz (by omega), padP8_succ hz (by omega)])) rfl t_0 .nil) rfl rfl rfl), (by omega)⟩
    ·
      replace hc := lss_f hc
      obtain rfl : i = 64 := by omega
      rw [padP8_end]
      refine W_exit ?_
      refine wsr ?_
      refine wp rfl hC t_1 ?_
      refine wp rfl hC t_4 ?_
      refine WL_nil ?_
      refine W_ret ?_
      exact fin1 (.cons (.tmp rfl) .nil) rfl rfl (inSL_I _)
set_option maxRecDepth 20000 in
set_option maxHeartbeats 4000000 in
theorem code_c (n : Nat) (key : List Int) (ps : List (Nat × List Int)) (m : Nat) (hn : key.length = n) (hk : B8 key) (hl : n ≤ 1099511627776) (hm : ps.length = m) (hm2 : m ≤ 1000) (hp : ∀ p ∈ ps, p.2.length = p.1 ∧ B8 p.2) (hpl : (ps.map (·.2)).flatten.length ≤ 1099511627000) : FnC Tryd.prog 32 [(1000000, .rp (I .u32 tbl))] [.vs n (I .u8 key), .vs m (ps.map fun p => AV.vs p.1 (I .u8 p.2))] [] [] (.ag (I .u8 (codeM key (ps.map (·.2)).flatten))) := by
  have hl5 := length_padK key 54
  have hl9 := length_padK key 92
  have hb5 := B8_padK key 54
  have hb9 := B8_padK key 92
  have hkp : AV.inSL (fun _ => False) (ps.map fun p => AV.vs p.1 (I .u8 p.2)) := keyless_parts (ps := ps) (m := 0)
  refine FnC.introR (N0 := 0) (T := 17) (E := [(0, .vs n (I .u8 key)), (1, .vs m (ps.map fun p => AV.vs p.1 (I .u8 p.2))), (1000000, .rp (I .u32 tbl))]) Tryd.func32 rfl (by decide) mix rfl rfl rfl (by simp) rfl ⟨inSL_I _, inS_mono (fun _ h => h.elim) _ keyless_parts, trivial⟩ (by simp) t_10 (fun F n0 X w ρ hC hro => ?_)
  refine wsr ?_
  refine wp rfl hC t_22 ?_
  refine WL_nil ?_
  refine wsr ?_
  refine wp rfl hC t_1 ?_
  refine wp rfl hC t_85 ?_
  refine wp rfl hC (ox_litR hC (.cons (.tmp rfl) .nil) Tryd.underlying68 cells_22 zero_22 rfl (by decide) rfl rfl t_5 rfl rfl) ?_
  refine wp rfl hC t_1 ?_
  refine wp rfl hC (ox_append (n' := 1 + m) (cs' := (.row 1 :: (ps.map fun p => AV.vs p.1 (I .u8 p.2)))) hC (.tmp rfl) (.tmp rfl) t_35 t_a t_r Tryd.underlying68 cells_22 bytes_22 zero_22 rfl (by decide) (by rw [List.length_map]; omega) (by rw [Nat.mul_one]; exact one_parts) t_16 (by show [AV.row 1] ++ _ = _; rw [Nat.mul_one, List.take_of_length_le (by rw [List.length_map]; omega)]; rfl) t_n (by omega) rfl rfl) ?_
  refine wp rfl hC (oc_call hC (.cons (.tmp rfl) .nil) (.row rfl (.row rfl (.same (inSL_I _)) (.same hkp)) (.same trivial)) (of_c ((64, padK key 54) :: ps) (1 + m) (by rw [List.length_cons, hm]; omega) (by omega) (by intro p hm; rcases List.mem_cons.1 hm with rfl | hm; exact ⟨hl5, hb5⟩; exact hp p hm) (by simp at hpl ⊢; omega)) (glob_cons rfl rfl t_0 glob_nil) t_0 t_8 rfl rfl) ?_
  rw [show (((64, padK key 54) :: ps).map (·.2)).flatten = padK key 54 ++ (ps.map (·.2)).flatten by simp]
  have hs1 := length_sh (padK key 54 ++ (ps.map (·.2)).flatten)
  have hsb := B8_sha tbl (padK key 54 ++ (ps.map (·.2)).flatten)
  refine wp rfl hC t_22 ?_
  refine wp rfl hC (ox_store hC (.tmp rfl) (.tmp rfl) rfl shp_25 t_h t_18 t_s t_4o t_f rfl) ?_
  refine WL_nil ?_
  refine W_seq ?_
  refine W_drawD hC ?_
  refine WD_cons (.plain rfl t_1) ?_
  refine WD_cons (.plain rfl t_85) ?_
  refine WD_cons (.plain rfl t_7m) ?_
  refine WD_cons (.plain rfl (ox_lit hC (.cons (.tmp rfl) (.cons (.tmp rfl) .nil)) Tryd.underlying68 cells_22 zero_22 rfl (by decide) rfl rfl t_5 rfl rfl)) ?_
  refine WD_cons (.plain rfl (oc_call hC (.cons (.tmp rfl) .nil) (.vs (.row rfl (.same (inSL_I _)) (.sl (m := 32) rfl (by rw [List.drop_zero]; exact take_allI hs1) (by intro h; cases h) (.same (inSL_I _)) (.same trivial))) (.same trivial)) (of_c [(64, padK key 92), (32, sha tbl (padK key 54 ++ (ps.map (·.2)).flatten))] 2 rfl (by decide) (by intro p hm; simp only [List.mem_cons, List.not_mem_nil, or_false] at hm; rcases hm with rfl | rfl; exact ⟨hl9, hb9⟩; exact ⟨hs1, hsb⟩) t_7) (glob_cons rfl rfl t_0 glob_nil) t_0 t_8 rfl rfl)) ?_
  rw [show (([(64, padK key 92), (32, sha tbl (padK key 54 ++ (ps.map (·.2)).flatten))] : List (Nat × List Int)).map (·.2)).flatten = padK key 92 ++ sha tbl (padK key 54 ++ (ps.map (·.2)).flatten) by simp, code_eq]
  have hlc := length_code key (ps.map (·.2)).flatten
  refine WD_cons (.plain rfl t_5n) ?_
  refine WD_nil t_x ?_
  refine W_ret ?_
  exact fin0 (.cons (.cell rfl (.p rfl) shp_25 (unit_all hlc)) .nil) rfl (inSL_I _)
set_option maxRecDepth 20000 in
set_option maxHeartbeats 4000000 in
theorem rcode_c (n m : Nat) (key b : List Int) (hn : key.length = n) (hm : b.length = m) (hk : B8 key) (hb : B8 b) (hl : n ≤ 1099511627000) (hl2 : m ≤ 1099511627000) : FnC Tryd.prog 35 [] [.vs n (I .u8 key), .vs m (I .u8 b)] [] [(0, .row 5 1 32 (I .u8 (codeM key b)))] (.row 0) := by
  have hl64 := length_key64 key
  have hz := length_zpad key
  have hzb := B8_zpad hk
  have hl5 := length_padK key 54
  have hl9 := length_padK key 92
  have hb5 := B8_padK key 54
  have hb9 := B8_padK key 92
  have hk64 := B8_key64 hk
  refine FnC.introR (N0 := 0) (T := 50) (E := [(0, .vs n (I .u8 key)), (1, .vs m (I .u8 b))]) Tryd.func35 rfl (by decide) mix rfl rfl rfl (by simp) rfl ⟨t_b, t_b, trivial⟩ (by simp) (by
        intro S ha hr hw
        have s0 : S 0 := hw 0 t_17 t_5
        refine ⟨by first | exact inSL_I _ | simp [s0], fun k b hm => ?_⟩
        simp only [List.mem_cons, Prod.mk.injEq, List.not_mem_nil, or_false] at hm
        rcases hm with ⟨rfl, rfl⟩
        · exact ⟨s0, by first | exact inSL_I _ | simp [s0]⟩) (fun F n0 X w ρ hC hro => ?_)
  refine wsr ?_
  refine wp rfl hC t_v ?_
  refine WL_nil ?_
  refine wsr ?_
  refine wp rfl hC t_4r ?_
  refine wp rfl hC t_1 ?_
  refine wp rfl hC (ox_append (n' := n) (cs' := I .u8 key) hC (.tmp rfl) (.tmp rfl) t_35 t_a t_r Tryd.underlying22 cells_5 bytes_5 zero_5 rfl (by decide) t_1n t_t (Nat.zero_add _) ((app_I (us := []) hn).trans rfl) t_n (by omega) rfl rfl) ?_
  refine wp rfl hC t_4 ?_
  refine WL_nil ?_
  refine W_seq ?_
  refine wsr ?_
  refine wp rfl hC t_1 ?_
  refine wp rfl hC t_32 ?_
  refine wp rfl hC t_11 ?_
  refine WL_nil ?_
  refine W_join (fun (ζ : Unit) => ⟨1, [(1, .vs m (I .u8 b)), (5, .row 0)], [(0, .row 5 1 (key64 key).length (I .u8 (key64 key)))]⟩) (fun ζ => True) ?_ ?_
  ·
    refine W_cond rfl (by decide) (fun hc => ?_) (fun hc => ?_)
    ·
      replace hc := gtr_t hc
      have h32 : (key64 key).length = 32 := by rw [← key_sha (by omega)]; exact length_sha _ _
      refine W_region ?_
      refine wp rfl hC t_1 ?_
      refine wp rfl hC (oc_callN hC (.cons (.tmp rfl) .nil) (.cons1 t_31 (.same t_0)) (rof_c _ _ hn (by omega) hk) glob_nil t_0 rfl t_q rfl rfl) ?_
      rw [key_sha (by omega)]
      refine wp rfl hC t_4 ?_
      refine WL_nil ?_
      exact ⟨(), trivial, (weak (fun k => bif Nat.beq k 0 then 2 else k) (.cons rfl t_30 t_0 (.cons rfl t_5 t_6 .nil)) (.cons rfl (renRow h32 rfl) rfl t_0 .nil) rfl rfl rfl)⟩
    ·
      replace hc := gtr_f hc
      
      refine W_skip ?_
      exact ⟨(), trivial, (weak (fun k => bif Nat.beq k 0 then 1 else k) (.cons rfl t_30 t_0 (.cons rfl t_5 t_6 .nil)) (.cons rfl (renRow (by rw [← key_same (by omega), hn]) (key_same (by omega)).symm) rfl t_0 .nil) rfl rfl rfl)⟩
  ·
    rintro ⟨⟩ hR
    first | show W _ _ _ ⟨1, [(1, .vs m (I .u8 b)), (5, .row 0)], [(0, .row 5 1 (key64 key).length (I .u8 (key64 key)))]⟩ | skip
    refine W_seq ?_
    refine W_blk ?_
    refine W_loopW (fun (ζ : Nat) => ⟨1, [(1, .vs m (I .u8 b)), (5, .row 0)], [(0, .row 5 1 ((key64 key).length + ζ) (I .u8 (key64 key ++ List.replicate ζ 0)))]⟩) (fun ζ => ζ ≤ 64 - (key64 key).length) (fun ζ => 64 - (key64 key).length - ζ) (0) (Nat.zero_le _) (weak (fun k => k) (.cons rfl t_30 t_0 (.cons rfl t_5 t_6 .nil)) (.cons rfl (renRow rfl (List.append_nil _)) rfl t_0 .nil) rfl rfl rfl) ?_
    intro i hR
    replace hR : i ≤ 64 - (key64 key).length := hR
    first | show W _ _ _ ⟨1, [(1, .vs m (I .u8 b)), (5, .row 0)], [(0, .row 5 1 ((key64 key).length + i) (I .u8 (key64 key ++ List.replicate i 0)))]⟩ | skip
    refine W_seq ?_
    refine wsr ?_
    refine wp rfl hC t_1 ?_
    refine wp rfl hC t_32 ?_
    refine wp rfl hC t_11 ?_
    refine WL_nil ?_
    refine W_cond rfl (by decide) (fun hc => ?_) (fun hc => ?_)
    ·
      replace hc := lss_t hc
      
      refine W_skip ?_
      refine W_blk ?_
      refine W_region ?_
      refine wp rfl hC t_1 ?_
      refine wp rfl hC t_5c ?_
      refine wp rfl hC t_6o ?_
      refine wp rfl hC t_4 ?_
      refine WL_nil ?_
      exact ⟨(i + 1), (by omega), (weak (fun k => bif Nat.beq k 0 then 1 else k) (.cons rfl t_30 t_0 (.cons rfl t_5 t_6 .nil)) (.cons rfl (renRow rfl (by rw [List.replicate_succ', List.append_assoc])) rfl t_0 .nil) rfl rfl rfl), (by omega)⟩
    ·
      replace hc := lss_f hc
      obtain rfl : i = 64 - (key64 key).length := by omega
      rw [show key64 key ++ List.replicate (64 - (key64 key).length) (0 : Int) = zpad key by unfold zpad; rfl, show (key64 key).length + (64 - (key64 key).length) = 64 by omega]
      refine W_exit ?_
      refine wsr ?_
      refine wp rfl hC t_v ?_
      refine WL_nil ?_
      refine wsr ?_
      refine wp rfl hC t_v ?_
      refine WL_nil ?_
      refine W_seq ?_
      refine wsr ?_
      refine wp rfl hC t_k ?_
      refine WL_nil ?_
      refine W_blk ?_
      refine W_weak (weak_nil (t := 6) (e := 5) (sz := 1) rfl) ?_
      refine W_weak (weak_nil (t := 7) (e := 5) (sz := 1) rfl) ?_
      refine W_loopW (fun (ζ : Nat) => ⟨3, [(1, .vs m (I .u8 b)), (5, .row 0), (6, .row 1), (7, .row 2), (8, .i .i64 ζ)], [(0, .row 5 1 64 (I .u8 (zpad key))), (1, .row 5 1 ζ (I .u8 (padR (zpad key) 54 ζ))), (2, .row 5 1 ζ (I .u8 (padR (zpad key) 92 ζ)))]⟩) (fun ζ => ζ ≤ 64) (fun ζ => 64 - ζ) (0) (by simp) (weak (fun k => k) (.cons rfl t_30 t_0 (.cons rfl t_5 t_6 (.cons rfl t_5 t_6 (.cons rfl t_5 t_6 (.cons rfl rfl trivial .nil))))) (.cons rfl (renRow rfl rfl) rfl t_0 (.cons rfl (renRow (l' := []) rfl (by unfold padR; rfl)) rfl t_0 (.cons rfl (renRow (l' := []) rfl (by unfold padR; rfl)) rfl t_0 .nil))) rfl rfl rfl) ?_
      intro i hR
      replace hR : i ≤ 64 := hR
      first | show W _ _ _ ⟨3, [(1, .vs m (I .u8 b)), (5, .row 0), (6, .row 1), (7, .row 2), (8, .i .i64 i)], [(0, .row 5 1 64 (I .u8 (zpad key))), (1, .row 5 1 i (I .u8 (padR (zpad key) 54 i))), (2, .row 5 1 i (I .u8 (padR (zpad key) 92 i)))]⟩ | skip
      refine W_seq ?_
      refine wsr ?_
      refine wp rfl hC t_1 ?_
      refine wp rfl hC t_11 ?_
      refine WL_nil ?_
      refine W_cond rfl (by decide) (fun hc => ?_) (fun hc => ?_)
      ·
        replace hc := lss_t hc
        
        refine W_skip ?_
        refine W_seq ?_
        refine W_blk ?_
        refine wsr ?_
        refine wp rfl hC t_1 ?_
        refine wp rfl hC t_1 ?_
        refine wp rfl hC t_1 ?_
        refine wp rfl hC t_7b ?_
        refine wp rfl hC t_6l ?_
        refine wp rfl hC (oc_bin hC rfl (.tmp rfl) .cint rfl rfl rfl) ?_
        refine wp rfl hC t_3v ?_
        refine wp rfl hC t_6o ?_
        refine wp rfl hC t_4 ?_
        refine WL_nil ?_
        refine W_region ?_
        refine wp rfl hC t_1 ?_
        refine wp rfl hC t_1 ?_
        refine wp rfl hC t_1 ?_
        refine wp rfl hC t_7b ?_
        refine wp rfl hC t_6l ?_
        refine wp rfl hC (oc_bin hC rfl (.tmp rfl) .cint rfl rfl rfl) ?_
        refine wp rfl hC t_3v ?_
        refine wp rfl hC t_6o ?_
        refine wp rfl hC t_4 ?_
        refine WL_nil ?_
        refine W_region ?_
        refine wp rfl hC t_1 ?_
        refine wp rfl hC t_36 ?_
        refine wp rfl hC t_4 ?_
        refine WL_nil ?_
        exact ⟨(i + 1), (by omega), (weak (fun k => bif Nat.beq k 2 then 4 else bif Nat.beq k 1 then 3 else k) (.cons rfl t_30 t_0 (.cons rfl t_5 t_6 (.cons rfl t_5 t_6 (.cons rfl t_5 t_6 (.cons rfl t_2y trivial .nil))))) (.cons rfl (renRow rfl rfl) rfl t_0 (.cons rfl (renRow rfl (padR_succ (by omega)).symm) rfl t_0 (.cons rfl (renRow rfl (padR_succ (by omega)).symm) rfl t_0 .nil))) rfl rfl rfl), (by omega)⟩
      ·
        replace hc := lss_f hc
        obtain rfl : i = 64 := by omega
        rw [padR_end, padR_end]
        refine W_exit ?_
        refine wsr ?_
        refine wp rfl hC t_1 ?_
        refine wp rfl hC t_1 ?_
        refine wp rfl hC t_1 ?_
        refine wp rfl hC (ox_append (n' := 64 + m) (cs' := I .u8 (padK key 54 ++ b)) hC (.tmp rfl) (.tmp rfl) t_35 t_a t_r Tryd.underlying22 cells_5 bytes_5 zero_5 rfl (by decide) t_1n t_t t_16 (app_I hm) t_n (by omega) rfl rfl) ?_
        refine wp rfl hC (oc_callN hC (.cons (.tmp rfl) .nil) (.cons1 t_31 (.same t_0)) (rof_c _ _ (by rw [List.length_append]; omega) (by omega) (B8_append hb5 hb)) glob_nil t_0 rfl t_q rfl rfl) ?_
        have hs1 := length_sh (padK key 54 ++ b)
        refine wp rfl hC (ox_append (n' := 96) (cs' := I .u8 (padK key 92 ++ sha tbl (padK key 54 ++ b))) hC (.tmp rfl) (.tmp rfl) t_35 t_a t_r Tryd.underlying22 cells_5 bytes_5 zero_5 rfl (by decide) t_1n t_t rfl (app_I hs1) t_n (by omega) rfl rfl) ?_
        refine wp rfl hC (oc_callN hC (.cons (.tmp rfl) .nil) (.cons1 t_31 (.same t_0)) (rof_c _ _ (by rw [List.length_append]; omega) (by omega) (B8_append hb9 (B8_sha _ _))) glob_nil t_0 rfl t_q rfl rfl) ?_
        rw [code_eq]
        refine wp rfl hC t_4 ?_
        refine WL_nil ?_
        refine W_ret ?_
        exact fin1 (.cons (.tmp rfl) .nil) rfl rfl (inSL_I _)
set_option maxRecDepth 20000 in
set_option maxHeartbeats 4000000 in
theorem rkey_c (ns nt np n : Nat) (se sa pu : List Int) (hs : se.length = ns) (ht : sa.length = nt) (hp : pu.length = np) (bs8 : B8 se) (bt8 : B8 sa) (bp8 : B8 pu) (ls : ns ≤ 1000000) (lt : nt ≤ 1000000) (lp : np ≤ 1000000) (hn : n ≤ 8160) : FnC Tryd.prog 22 [] [.vs ns (I .u8 se), .vs nt (I .u8 sa), .vs np (I .u8 pu), .i .i64 n] [] [(0, .row 5 1 (32 * rnds n) (I .u8 (keyS (codeM sa se) pu (rnds n))))] (.sl 0 0 n) := by
  have hrn : rnds n = (n + 31) / 32 := rfl
  have hlc := length_code sa se
  have hbc := B8_code sa se
  refine FnC.introR (N0 := 0) (T := 41) (E := [(0, .vs ns (I .u8 se)), (1, .vs nt (I .u8 sa)), (2, .vs np (I .u8 pu)), (3, .i .i64 n)]) Tryd.func22 rfl (by decide) mix rfl rfl rfl (by simp) rfl ⟨t_b, t_b, t_b, t_b, trivial⟩ (by simp) (by
        intro S ha hr hw
        have s0 : S 0 := hw 0 t_17 t_5
        refine ⟨by first | exact inSL_I _ | simp [s0], fun k b hm => ?_⟩
        simp only [List.mem_cons, Prod.mk.injEq, List.not_mem_nil, or_false] at hm
        rcases hm with ⟨rfl, rfl⟩
        · exact ⟨s0, by first | exact inSL_I _ | simp [s0]⟩) (fun F n0 X w ρ hC hro => ?_)
  refine wsr ?_
  refine wp rfl hC t_v ?_
  refine WL_nil ?_
  refine wsr ?_
  refine wp rfl hC t_1 ?_
  refine wp rfl hC t_1 ?_
  refine wp rfl hC (oc_callN hC (.cons (.tmp rfl) (.cons (.tmp rfl) .nil)) (.cons1 t_31 (.cons1 t_31 (.same t_0))) (rcode_c _ _ _ _ ht hs bt8 bs8 (by omega) (by omega)) glob_nil t_0 rfl t_q rfl rfl) ?_
  refine wp rfl hC t_4 ?_
  refine WL_nil ?_
  refine wsr ?_
  refine wp rfl hC t_v ?_
  refine WL_nil ?_
  refine wsr ?_
  refine wp rfl hC t_v ?_
  refine WL_nil ?_
  refine W_seq ?_
  refine wsr ?_
  refine wp rfl hC t_k ?_
  refine WL_nil ?_
  refine W_blk ?_
  refine W_weak (weak_nil (t := 10) (e := 5) (sz := 1) rfl) ?_
  refine W_weak (weak_nil (t := 11) (e := 5) (sz := 1) rfl) ?_
  refine W_loopW (fun (ζ : Nat) => ⟨3, [(2, .vs np (I .u8 pu)), (3, .i .i64 n), (9, .row 0), (10, .row 1), (11, .row 2), (12, .i .i64 ((ζ : Int) + 1))], [(0, .row 5 1 32 (I .u8 (codeM sa se))), (1, .row 5 1 (32 * ζ) (I .u8 (keyS (codeM sa se) pu ζ))), (2, .row 5 1 (if ζ = 0 then 0 else 32) (I .u8 (keyT (codeM sa se) pu ζ)))]⟩) (fun ζ => ζ ≤ rnds n) (fun ζ => rnds n - ζ) (0) (Nat.zero_le _) (weak (fun k => k) (.cons rfl t_30 t_0 (.cons rfl t_2y trivial (.cons rfl t_5 t_6 (.cons rfl t_5 t_6 (.cons rfl t_5 t_6 (.cons rfl rfl trivial .nil)))))) (.cons rfl (renRow rfl rfl) rfl t_0 (.cons rfl (renRow (l' := []) rfl keyS_zero) rfl t_0 (.cons rfl (renRow (l' := []) rfl keyT_zero) rfl t_0 .nil))) rfl rfl rfl) ?_
  intro i hR
  replace hR : i ≤ rnds n := hR
  first | show W _ _ _ ⟨3, [(2, .vs np (I .u8 pu)), (3, .i .i64 n), (9, .row 0), (10, .row 1), (11, .row 2), (12, .i .i64 ((i : Int) + 1))], [(0, .row 5 1 32 (I .u8 (codeM sa se))), (1, .row 5 1 (32 * i) (I .u8 (keyS (codeM sa se) pu i))), (2, .row 5 1 (if i = 0 then 0 else 32) (I .u8 (keyT (codeM sa se) pu i)))]⟩ | skip
  have hlT : (keyT (codeM sa se) pu i).length = (if i = 0 then 0 else 32) := by
    cases i with
    | zero => rw [keyT_zero]; rfl
    | succ i => rw [length_keyT]; rfl
  have hle : (if i = 0 then 0 else 32) ≤ 32 := by split <;> omega
  generalize hq : (if i = 0 then 0 else 32) = qi at *
  have hbT := B8_keyT (codeM sa se) pu i
  have hlT1 := length_keyT (codeM sa se) pu i
  refine W_seq ?_
  refine wsr ?_
  refine wp rfl hC t_1 ?_
  refine wp rfl hC t_32 ?_
  refine wp rfl hC t_1 ?_
  refine wp rfl hC t_1e ?_
  refine WL_nil ?_
  refine W_cond rfl (by decide) (fun hc => ?_) (fun hc => ?_)
  ·
    replace hc := lss_t hc
    
    refine W_skip ?_
    refine W_seq ?_
    refine W_blk ?_
    refine wsr ?_
    refine wp rfl hC t_4r ?_
    refine wp rfl hC t_1 ?_
    refine wp rfl hC (ox_append (n' := qi) (cs' := I .u8 (keyT (codeM sa se) pu i)) hC (.tmp rfl) (.tmp rfl) t_35 t_a t_r Tryd.underlying22 cells_5 bytes_5 zero_5 rfl (by decide) t_1n t_t (Nat.zero_add _) ((app_I (us := []) hlT).trans rfl) t_n (by omega) rfl rfl) ?_
    refine wp rfl hC t_1 ?_
    refine wp rfl hC (ox_append (n' := qi + np) (cs' := I .u8 (keyT (codeM sa se) pu i ++ pu)) hC (.tmp rfl) (.tmp rfl) t_35 t_a t_r Tryd.underlying22 cells_5 bytes_5 zero_5 rfl (by decide) t_1n t_t t_16 (app_I hp) t_n (by omega) rfl rfl) ?_
    refine wp rfl hC t_4 ?_
    refine WL_nil ?_
    refine wsr ?_
    refine wp rfl hC t_1 ?_
    refine wp rfl hC t_1 ?_
    refine wp rfl hC t_1 ?_
    refine wp rfl hC (oc_conv hC (.tmp rfl) rfl Tryd.underlying5 (r := (i : Int) + 1) (u8_conv (by omega)) rfl rfl) ?_
    refine wp rfl hC t_3v ?_
    refine wp rfl hC (ox_append (n' := qi + np + 1) (cs' := I .u8 (keyT (codeM sa se) pu i ++ pu ++ [(i : Int) + 1])) hC (.tmp rfl) (.tmp rfl) t_35 t_a t_r Tryd.underlying22 cells_5 bytes_5 zero_5 rfl (by decide) t_15 t_t t_16 app_1 t_n (by omega) rfl rfl) ?_
    refine wp rfl hC (oc_callN hC (.cons (.tmp rfl) (.cons (.tmp rfl) .nil)) (.cons1 t_31 (.cons1 t_31 (.same t_0))) (rcode_c _ _ _ _ hlc t_7 hbc (B8_append (B8_append hbT bp8) (by intro x hx; simp at hx; omega)) (by omega) (by omega)) glob_nil t_0 rfl t_q rfl rfl) ?_
    rw [keyT_succ]
    refine wp rfl hC t_4 ?_
    refine WL_nil ?_
    refine W_region ?_
    refine wp rfl hC t_1 ?_
    refine wp rfl hC t_1 ?_
    refine wp rfl hC (ox_append (n' := 32 * i + 32) (cs' := I .u8 (keyS (codeM sa se) pu i ++ keyT (codeM sa se) pu (i + 1))) hC (.tmp rfl) (.tmp rfl) t_35 t_a t_r Tryd.underlying22 cells_5 bytes_5 zero_5 rfl (by decide) t_1n t_t t_16 (app_I hlT1) t_n (by omega) rfl rfl) ?_
    refine wp rfl hC t_4 ?_
    refine WL_nil ?_
    refine W_region ?_
    refine wp rfl hC t_1 ?_
    refine wp rfl hC t_36 ?_
    refine wp rfl hC t_4 ?_
    refine WL_nil ?_
    exact ⟨(i + 1), (by omega), (weak (fun k => bif Nat.beq k 2 then 7 else bif Nat.beq k 1 then 8 else k) (.cons rfl t_30 t_0 (.cons rfl t_2y trivial (.cons rfl t_5 t_6 (.cons rfl t_5 t_6 (.cons rfl t_5 t_6 (.cons rfl (congrArg (AV.i _) (by omega)) trivial .nil)))))) (.cons rfl (renRow rfl rfl) rfl t_0 (.cons rfl (renRow (by omega) keyS_succ.symm) rfl t_0 (.cons rfl (renRow rfl rfl) rfl t_0 .nil))) rfl rfl rfl), (by omega)⟩
  ·
    replace hc := lss_f hc
    obtain rfl : i = rnds n := by omega
    refine W_exit ?_
    refine wsr ?_
    refine wp rfl hC t_1 ?_
    refine wp rfl hC t_1 ?_
    refine wp rfl hC (ox_cutS (u' := .sl 1 0 n) hC (.tmp rfl) .no (.yes (n := n) (.tmp rfl) t_w) idx_22 t_3w t_2 t_2 rfl rfl rfl) ?_
    refine wp rfl hC t_4 ?_
    refine WL_nil ?_
    refine W_ret ?_
    exact fin1 (.cons (.tmp rfl) .nil) rfl rfl (inSL_I _)
set_option maxRecDepth 20000 in
set_option maxHeartbeats 4000000 in
theorem key1_c (nl np : Nat) (last p pu : List Int) (i : Int) (hl : last.length = nl) (hp : pu.length = np) (h32 : p.length = 32) (bl : B8 last) (bp : B8 p) (bu : B8 pu) (ll : nl ≤ 32) (lp : np ≤ 1000000) (hi : 0 ≤ i ∧ i ≤ 255) : FnC Tryd.prog 33 [(1000000, .rp (I .u32 tbl))] [.vs nl (I .u8 last), .i .i64 i, .rp (I .u8 p), .rp [.vs np (I .u8 pu)]] [] [(0, .blk 25 (I .u8 (codeM p (last ++ pu ++ [i]))))] (.sl 0 0 32) := by
  have hlc := length_code p (last ++ pu ++ [i])
  have bi : B8 [i] := by intro x hx; simp at hx; omega
  refine FnC.introR (N0 := 0) (T := 17) (E := [(0, .vs nl (I .u8 last)), (1, .i .i64 i), (2, .rp (I .u8 p)), (3, .rp [.vs np (I .u8 pu)]), (1000000, .rp (I .u32 tbl))]) Tryd.func33 rfl (by decide) mix rfl rfl rfl (by simp) rfl ⟨t_b, t_b, t_b, t_b, trivial⟩ (by simp) (by
        intro S ha hr hw
        have s0 : S 0 := hw 0 t_17 t_5
        refine ⟨by first | exact inSL_I _ | simp [s0], fun k b hm => ?_⟩
        simp only [List.mem_cons, Prod.mk.injEq, List.not_mem_nil, or_false] at hm
        rcases hm with ⟨rfl, rfl⟩
        · exact ⟨s0, by first | exact inSL_I _ | simp [s0]⟩) (fun F n0 X w ρ hC hro => ?_)
  refine wsr ?_
  refine wp rfl hC t_v ?_
  refine WL_nil ?_
  refine W_seq ?_
  refine W_drawD hC ?_
  refine WD_cons (.plain rfl (ox_cutA (u' := .vs 32 (I .u8 p)) hC (.tmp rfl) .no .no idx_25 t_2 t_2 t_3n (by rw [Nat.zero_mul, List.drop_zero]; exact congrArg _ (take_allI (by omega))) rfl rfl)) ?_
  refine WD_cons (.plain rfl t_1) ?_
  refine WD_cons (.plain rfl (oc_load hC (.tmp rfl) t_3 shp_22 (by exact (unit_c rfl (by simp))) rfl rfl)) ?_
  refine WD_cons (.plain rfl t_1) ?_
  refine WD_cons (.plain rfl (oc_conv hC (.tmp rfl) rfl Tryd.underlying5 (r := i) (u8_conv (by omega)) rfl rfl)) ?_
  refine WD_cons (.plain rfl t_3v) ?_
  refine WD_cons (.plain rfl (ox_lit hC (.cons (.tmp rfl) (.cons (.tmp rfl) (.cons (.tmp rfl) .nil))) Tryd.underlying68 cells_22 zero_22 rfl (by decide) rfl rfl t_5 rfl rfl)) ?_
  refine WD_cons (.plain rfl (oc_call hC (.cons (.tmp rfl) (.cons (.tmp rfl) .nil)) (.cons1 t_31 (.cons1 t_31 (.same t_0))) (code_c 32 p [(nl, last), (np, pu), (1, [i])] 3 h32 bp (by decide) rfl (by decide) (by intro p hp; simp only [List.mem_cons, List.not_mem_nil, or_false] at hp; rcases hp with rfl | rfl | rfl; exact ⟨hl, bl⟩; exact ⟨hp, bu⟩; exact ⟨rfl, bi⟩) t_7) (glob_cons rfl rfl t_0 glob_nil) t_0 t_8 rfl rfl)) ?_
  rw [show (([(nl, last), (np, pu), (1, [i])] : List (Nat × List Int)).map (·.2)).flatten = last ++ pu ++ [i] by simp]
  refine WD_cons (.plain rfl t_22) ?_
  refine WD_cons (.plain rfl t_5n) ?_
  refine WD_nil t_x ?_
  refine wsr ?_
  refine wp rfl hC t_7m ?_
  refine wp rfl hC t_4 ?_
  refine WL_nil ?_
  refine W_ret ?_
  exact fin1 (.cons (.tmp rfl) .nil) rfl rfl (inSL_I _)
set_option maxRecDepth 20000 in
set_option maxHeartbeats 4000000 in
theorem key_c (ns nt np n : Nat) (se sa pu : List Int) (hs : se.length = ns) (ht : sa.length = nt) (hp : pu.length = np) (bs8 : B8 se) (bt8 : B8 sa) (bp8 : B8 pu) (ls : ns ≤ 1000000) (lt : nt ≤ 1000000) (lp : np ≤ 1000000) (hn : n ≤ 8160) : FnC Tryd.prog 20 [(1000000, .rp (I .u32 tbl))] [.vs ns (I .u8 se), .vs nt (I .u8 sa), .vs np (I .u8 pu), .i .i64 n] [] [(0, .row 5 1 (32 * rnds n) (I .u8 (keyS (codeM sa se) pu (rnds n))))] (.sl 0 0 n) := by
  have hrn : rnds n = (n + 31) / 32 := rfl
  have hlc := length_code sa se
  have hbc := B8_code sa se
  refine FnC.introR (N0 := 0) (T := 42) (E := [(0, .vs ns (I .u8 se)), (1, .vs nt (I .u8 sa)), (2, .vs np (I .u8 pu)), (3, .i .i64 n), (1000000, .rp (I .u32 tbl))]) Tryd.func20 rfl (by decide) mix rfl rfl rfl (by simp) rfl ⟨t_b, t_b, t_b, t_b, trivial⟩ (by simp) (by
        intro S ha hr hw
        have s0 : S 0 := hw 0 t_17 t_5
        refine ⟨by first | exact inSL_I _ | simp [s0], fun k b hm => ?_⟩
        simp only [List.mem_cons, Prod.mk.injEq, List.not_mem_nil, or_false] at hm
        rcases hm with ⟨rfl, rfl⟩
        · exact ⟨s0, by first | exact inSL_I _ | simp [s0]⟩) (fun F n0 X w ρ hC hro => ?_)
  refine wsr ?_
  refine wp rfl hC t_3j ?_
  refine wp rfl hC t_v ?_
  refine WL_nil ?_
  refine W_seq ?_
  refine wsr ?_
  refine wp rfl hC t_1 ?_
  refine wp rfl hC t_37 ?_
  refine wp rfl hC t_1 ?_
  refine WL_cons hC.fn t_3d ?_
  refine WL_cons hC.fn t_6k ?_
  refine wp rfl hC t_3f ?_
  refine WL_nil ?_
  refine W_cond rfl (by decide) (fun hc => by cases hc) (fun _ => ?_)
  refine W_skip ?_
  refine wsr ?_
  refine wp rfl hC t_1 ?_
  refine wp rfl hC t_1 ?_
  refine wp rfl hC (ox_lit hC (.cons (.tmp rfl) .nil) Tryd.underlying68 cells_22 zero_22 rfl (by decide) rfl rfl t_5 rfl rfl) ?_
  refine wp rfl hC (oc_call hC (.cons (.tmp rfl) (.cons (.tmp rfl) .nil)) (.cons1 t_31 (.cons1 t_31 (.same t_0))) (code_c nt sa [(ns, se)] 1 ht bt8 (by omega) rfl (by decide) (by intro p hp; simp only [List.mem_cons, List.not_mem_nil, or_false] at hp; subst hp; exact ⟨hs, bs8⟩) t_7) (glob_cons rfl rfl t_0 glob_nil) t_0 t_8 rfl rfl) ?_
  rw [show (([(ns, se)] : List (Nat × List Int)).map (·.2)).flatten = se by simp]
  refine wp rfl hC t_22 ?_
  refine wp rfl hC t_5n ?_
  refine WL_nil ?_
  refine wsr ?_
  refine wp rfl hC (oc_func hC (.cons (.tmp rfl) (.cons (.tmp rfl) .nil)) rfl rfl) ?_
  refine wp rfl hC t_4 ?_
  refine WL_nil ?_
  refine wsr ?_
  refine wp rfl hC t_v ?_
  refine wp rfl hC t_v ?_
  refine WL_nil ?_
  refine W_seq ?_
  refine wsr ?_
  refine wp rfl hC t_k ?_
  refine WL_nil ?_
  refine W_blk ?_
  refine W_weak (weak_nil (t := 11) (e := 5) (sz := 1) rfl) ?_
  refine W_loopW (fun (ζ : Nat) => ⟨4, [(3, .i .i64 n), (10, .f 33 [.p 1 0, .p 0 0]), (11, .row 2), (12, .vs ((keyT (codeM sa se) pu ζ)).length (I .u8 (keyT (codeM sa se) pu ζ))), (13, .i .i64 ((ζ : Int) + 1)), (1000000, .rp (I .u32 tbl))], [(0, .blk 22 [.vs np (I .u8 pu)]), (1, .blk 25 (I .u8 (codeM sa se))), (2, .row 5 1 (32 * ζ) (I .u8 (keyS (codeM sa se) pu ζ)))]⟩) (fun ζ => ζ ≤ rnds n) (fun ζ => rnds n - ζ) (0) (Nat.zero_le _) (Weak.trans (weak_nilv (t := 12) rfl) (weak (fun k => k) (.cons rfl t_2y trivial (.cons rfl rfl (by simp) (.cons rfl t_5 t_6 (.cons rfl (ren_vsI.trans (by rw [keyT_zero]; rfl)) t_0 (.cons rfl rfl trivial (.cons rfl t_30 t_0 .nil)))))) (.cons rfl (Blk.ren_free (by simp) _) rfl t_0 (.cons rfl (renBlk rfl) rfl t_0 (.cons rfl (renRow (l' := []) rfl keyS_zero) rfl t_0 .nil))) rfl rfl rfl)) ?_
  intro i hR
  replace hR : i ≤ rnds n := hR
  first | show W _ _ _ ⟨4, [(3, .i .i64 n), (10, .f 33 [.p 1 0, .p 0 0]), (11, .row 2), (12, .vs ((keyT (codeM sa se) pu i)).length (I .u8 (keyT (codeM sa se) pu i))), (13, .i .i64 ((i : Int) + 1)), (1000000, .rp (I .u32 tbl))], [(0, .blk 22 [.vs np (I .u8 pu)]), (1, .blk 25 (I .u8 (codeM sa se))), (2, .row 5 1 (32 * i) (I .u8 (keyS (codeM sa se) pu i)))]⟩ | skip
  have hlT := length_keyT_le (codeM sa se) pu i
  have hbT := B8_keyT (codeM sa se) pu i
  have hlT1 := length_keyT (codeM sa se) pu i
  refine W_seq ?_
  refine wsr ?_
  refine wp rfl hC t_1 ?_
  refine wp rfl hC t_32 ?_
  refine wp rfl hC t_1 ?_
  refine wp rfl hC t_1e ?_
  refine WL_nil ?_
  refine W_cond rfl (by decide) (fun hc => ?_) (fun hc => ?_)
  ·
    replace hc := lss_t hc
    
    refine W_skip ?_
    refine W_seq ?_
    refine W_blk ?_
    refine wsr ?_
    refine wp rfl hC t_1 ?_
    refine wp rfl hC t_1 ?_
    refine wp rfl hC t_1 ?_
    refine wp rfl hC (oc_callG (τ := fun k => bif Nat.beq k 0 then 4 else k) (N' := 5) hC (.val rfl) (.cons (.tmp rfl) (.cons (.tmp rfl) .nil)) (.v1 (.free t_0) (.v1 (.free t_0) (.v1 (.p rfl rfl (inSL_I _)) (.v1 (.p rfl rfl (by simp)) .end)))) (key1_c ((keyT (codeM sa se) pu i)).length np (keyT (codeM sa se) pu i) (codeM sa se) pu ((i : Int) + 1) rfl hp hlc hbT hbc bp8 hlT lp (by omega)) (glob_cons rfl rfl t_0 glob_nil) mr_nil (mr_cons t_g rfl mr_nil) rfl rd_nil rfl rfl rfl rfl t_4p rfl (dst_ok rfl rfl) (fun t => setE_cons _ _ _ _)) ?_
    rw [keyT_succ]
    refine wp rfl hC t_4 ?_
    refine WL_nil ?_
    refine W_region ?_
    refine wp rfl hC t_1 ?_
    refine wp rfl hC t_1 ?_
    refine wp rfl hC (ox_append (n' := 32 * i + 32) (cs' := I .u8 (keyS (codeM sa se) pu i ++ keyT (codeM sa se) pu (i + 1))) hC (.tmp rfl) (.tmp rfl) t_35 t_a t_r Tryd.underlying22 cells_5 bytes_5 zero_5 rfl (by decide) (by simp only [Blk.cs, List.drop_zero, length_I]; omega) t_t t_16 (by rw [List.drop_zero]; exact app_I hlT1) t_n (by omega) rfl rfl) ?_
    refine wp rfl hC t_4 ?_
    refine WL_nil ?_
    refine W_region ?_
    refine wp rfl hC t_1 ?_
    refine wp rfl hC t_36 ?_
    refine wp rfl hC t_4 ?_
    refine WL_nil ?_
    exact ⟨(i + 1), (by omega), (Weak.trans (weak_slv (t := 12) (us := I .u8 (keyT (codeM sa se) pu (i + 1))) rfl rfl (.there (.here rfl) rfl) (by rw [length_I, hlT1, List.drop_zero]; exact take_allI hlT1) (by intro _; decide) (inSL_I _)) (weak (fun k => bif Nat.beq k 2 then 5 else k) (.cons rfl t_2y trivial (.cons rfl rfl (by simp) (.cons rfl t_5 t_6 (.cons rfl (ren_vsI.trans (by rw [hlT1])) t_0 (.cons rfl (congrArg (AV.i _) (by omega)) trivial (.cons rfl t_30 t_0 .nil)))))) (.cons rfl (Blk.ren_free (by simp) _) rfl t_0 (.cons rfl (renBlk rfl) rfl t_0 (.cons rfl (renRow (by omega) keyS_succ.symm) rfl t_0 .nil))) rfl rfl rfl)), (by omega)⟩
  ·
    replace hc := lss_f hc
    obtain rfl : i = rnds n := by omega
    refine W_exit ?_
    refine wsr ?_
    refine wp rfl hC t_1 ?_
    refine wp rfl hC t_1 ?_
    refine wp rfl hC t_1 ?_
    refine wp rfl hC (oc_cutS3 (u' := .sl 2 0 n) (h := n) (m := n) hC (.tmp rfl) .no (.tmp rfl) (.tmp rfl) idx_22 t_3w t_2 t_2 t_2 rfl rfl rfl) ?_
    refine wp rfl hC t_4 ?_
    refine WL_nil ?_
    refine W_ret ?_
    exact fin1 (.cons (.tmp rfl) .nil) rfl rfl (inSL_I _)
set_option maxRecDepth 20000 in
set_option maxHeartbeats 4000000 in
theorem same_c (na nb : Nat) (a b : List Int) (ha : a.length = na) (hb : b.length = nb) (ba : B8 a) (bb : B8 b) (la : na ≤ 1099511627776) (lb : nb ≤ 1099511627776) : FnC Tryd.prog 38 [] [.vs na (I .u8 a), .vs nb (I .u8 b)] [] [] (.b (decide (a = b))) := by
  refine FnC.introR (N0 := 0) (T := 31) (E := [(0, .vs na (I .u8 a)), (1, .vs nb (I .u8 b))]) Tryd.func38 rfl (by decide) mix rfl rfl rfl (by simp) rfl ⟨t_b, t_b, trivial⟩ (by simp) t_10 (fun F n0 X w ρ hC hro => ?_)
  refine wsr ?_
  refine wp rfl hC t_1d ?_
  refine WL_nil ?_
  refine W_seq ?_
  refine wsr ?_
  refine wp rfl hC t_1 ?_
  refine wp rfl hC t_32 ?_
  refine wp rfl hC t_1 ?_
  refine wp rfl hC t_32 ?_
  refine wp rfl hC t_1e ?_
  refine WL_nil ?_
  refine W_cond rfl (by decide) (fun hc => ?_) (fun hc => ?_)
  ·
    replace hc := neq_t hc
    have hne : decide (a = b) = false := decide_eq_false (fun e => hc (by rw [← ha, ← hb, e]))
    refine wsr ?_
    refine wp rfl hC t_1d ?_
    refine WL_nil ?_
    refine W_ret ?_
    first | exact fin0 (.cons (.tmp rfl) .nil) (congrArg AV.b hne.symm) trivial | exact fin0 (.cons (.tmp rfl) .nil) rfl trivial
  ·
    replace hc := neq_f hc
    
    refine W_skip ?_
    refine wsr ?_
    refine wp rfl hC t_k ?_
    refine WL_nil ?_
    refine W_seq ?_
    refine wsr ?_
    refine wp rfl hC t_1 ?_
    refine wp rfl hC t_32 ?_
    refine wp rfl hC t_1l ?_
    refine WL_nil ?_
    refine W_blk ?_
    refine W_loopW (fun (ζ : Nat × Int) => ⟨0, [(0, .vs na (I .u8 a)), (1, .vs nb (I .u8 b)), (5, .i .u8 ζ.2), (13, .i .i64 na), (14, .i .i64 ζ.1)], []⟩) (fun ζ => ζ.1 ≤ na ∧ Gath a b ζ.1 ζ.2) (fun ζ => na - ζ.1) (0, 0) ⟨Nat.zero_le _, Gath.zero⟩ (weak (fun k => k) (.cons rfl t_30 t_0 (.cons rfl t_30 t_0 (.cons rfl rfl trivial (.cons rfl t_2y trivial (.cons rfl rfl trivial .nil))))) .nil rfl rfl rfl) ?_
    rintro ⟨i, v⟩ hR
    replace hR : i ≤ na ∧ Gath a b i v := hR
    obtain ⟨hi, hv⟩ := hR
    first | show W _ _ _ ⟨0, [(0, .vs na (I .u8 a)), (1, .vs nb (I .u8 b)), (5, .i .u8 v), (13, .i .i64 na), (14, .i .i64 i)], []⟩ | skip
    refine wsr ?_
    refine wp rfl hC t_1e ?_
    refine WL_nil ?_
    refine W_seq ?_
    refine W_cond rfl (by decide) (fun hc => ?_) (fun hc => ?_)
    ·
      replace hc := lss_t hc
      
      refine W_skip ?_
      refine W_seq ?_
      refine W_blk ?_
      refine wsr ?_
      refine wp rfl hC t_1 ?_
      refine wp rfl hC t_4 ?_
      refine WL_nil ?_
      refine W_drawD hC ?_
      refine WD_cons (.plain rfl t_1) ?_
      refine WD_cons (.plain rfl t_1) ?_
      refine WD_cons (.plain rfl t_1) ?_
      refine WD_cons (.plain rfl t_7b) ?_
      refine WD_cons (.plain rfl t_5k) ?_
      refine WD_cons (.plain rfl t_1) ?_
      refine WD_cons (.plain rfl t_1) ?_
      refine WD_cons (.plain rfl t_7b) ?_
      refine WD_cons (.plain rfl t_5k) ?_
      refine WD_cons (.plain rfl t_1h) ?_
      refine WD_cons (.plain rfl t_1h) ?_
      refine WD_cons (.plain rfl t_4) ?_
      refine WD_nil t_x ?_
      refine W_region ?_
      refine wp rfl hC t_36 ?_
      refine wp rfl hC t_1 ?_
      refine WL_nil ?_
      exact ⟨(i + 1, _), ⟨by omega, hv.succ ba bb (by omega) (by omega)⟩, (weak (fun k => k) (.cons rfl t_30 t_0 (.cons rfl t_30 t_0 (.cons rfl t_2y trivial (.cons rfl t_2y trivial (.cons rfl t_2y trivial .nil))))) .nil rfl rfl rfl), (by show na - (i + 1) < na - i; omega)⟩
    ·
      replace hc := lss_f hc
      obtain rfl : i = na := by omega
      refine W_exit ?_
      refine wsr ?_
      refine wp rfl hC t_1 ?_
      refine wp rfl hC (ox_cmp hC rfl (.tmp rfl) .cint (r := decide (a = b)) (by show decide (v = 0) = _; exact hv.same ha (by omega)) rfl rfl) ?_
      refine wp rfl hC t_4 ?_
      refine WL_nil ?_
      refine W_ret ?_
      first | exact fin0 (.cons (.tmp rfl) .nil) (congrArg AV.b hne.symm) trivial | exact fin0 (.cons (.tmp rfl) .nil) rfl trivial
end Go.Proofs.YtfngpppghlbanaaDoor
