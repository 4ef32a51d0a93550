/- Own work, printed by a program of this claim: walks through functions of the program. -/
import Derived.Test.YtlcgojhopdikbaaDoorW5
import Derived.Test.YtlcgojhopdikbaaDoorProg
import Derived.KernelRfl
set_option linter.unusedSimpArgs false
set_option linter.unusedVariables false
namespace Go.Proofs.YtlcgojhopdikbaaDoor
open Go.Sk Go.RowKit
attribute [local simp] AV.inSL AV.inS inSL_I Blk.inS Blk.cs AV.novs AV.novsL novsL_I AV.ren AV.cells AV.one lk tuAV
theorem eg_24 : Tryd.prog.eqGuardType Tryd.prog.depth 24 = false := by kernel_rfl
theorem kt_24 : Tryd.prog.keyTypeAt 8 24 = true := by kernel_rfl
theorem sg_24 : shp Tryd.prog 24 = some (true, Tryd.prog.cellsOf 24) := by kernel_rfl
theorem sh_24 : shOf Tryd.prog 8 24 = some (.st [.int .i64, .int .i64, .int .i64, .nums 32 .u8]) := by kernel_rfl
theorem decenc_c (k : Int) (id : List Int) (v n : Int) (b : List Int) (hid : id.length = 16) (bid : B8 id) (bb : B8 b) (hR : RightR k v n b.length) : FnC Tryd.prog 22 [(1000000, .rp (I .u32 nibT))] [.vs (encL k id v n b).length (I .u8 (encL k id v n b))] [] [] (.tu [.ag (recX k id v n (bodyV b)), .i .i64 0]) := by
  have hll := length_encL' hid hR
  obtain ⟨m, x0, C, E, Y, c1, c2, h1, h2, h3, h4, h5, h6, h7, h8, h9, h10⟩ := enc_data hid bid bb hR
  have h := dec_c (encL k id v n b) _ m rfl (B8_encL hR bid bb) (by omega) h1 h2 h3 x0 C E Y 0 0 0 v n b.length c1 c2 b h4 h5 h6 h7 h8 rfl rfl (by rw [h9]; exact hR)
  rw [h9, h10] at h
  exact h
theorem dec_any (s : List Int) (bs : B8 s) (hl : s.length ≤ 1099511627776) : (∃ (k : Int) (id : List Int) (v n : Int) (b : List Int), id.length = 16 ∧ B8 id ∧ B8 b ∧ RightR k v n b.length ∧ s = encL k id v n b) ∨
    (∃ e : Int, e ≠ 0 ∧ FnC Tryd.prog 22 [(1000000, .rp (I .u32 nibT))] [.vs s.length (I .u8 s)] [] [] (.tu [.ag (recX 0 (List.replicate 16 0) 0 0 .nils), .i .i64 e])) := by
  by_cases h4 : s.length < 4
  · exact .inr ⟨2, by decide, decshort_c s _ 0 rfl bs hl h4⟩
  obtain ⟨m, hm⟩ : ∃ m, s.length = m + 4 := ⟨s.length - 4, by omega⟩
  by_cases hs : vle (s.drop m) = ((crcS (s.take m) : Nat) : Int)
  case neg => exact .inr ⟨6, by decide, decsum_c s _ m rfl bs hl hm hs⟩
  by_cases hmg : m < 4 ∨ (4 ≤ m ∧ s.take 4 ≠ [84, 65, 80, 69])
  · exact .inr ⟨4, by decide, decform_c s _ m rfl bs hl hm hs hmg⟩
  have hmg2 : s.take 4 = [84, 65, 80, 69] := by
    by_cases h : s.take 4 = [84, 65, 80, 69]
    · exact h
    · exact absurd (.inr ⟨by omega, h⟩) hmg
  obtain ⟨m, rfl⟩ : ∃ q, m = q + 4 := ⟨m - 4, by omega⟩
  obtain ⟨ea, ca, x0, hx⟩ := fixS_ex ((s.drop 4).take m) 0 1
  obtain ⟨C, E, Y, rfl, rfl, hF⟩ := chain_ex 16 ca ea
  obtain ⟨e1, c1, v, hv⟩ := numS_ex (C 16) (E 16) 63
  obtain ⟨e2, c2, n, hn⟩ := numS_ex c1 e1 1099511627775
  obtain ⟨e3, c3, kk, hk⟩ := numS_ex c2 e2 262144
  by_cases he : e3 = 0
  case neg => exact .inr ⟨e3, he, decerr_c s _ m rfl bs hl hm hs hmg2 x0 C E Y e1 e2 e3 v n kk c1 c2 c3 hx hF hv hn hk he⟩
  have hkk := hk.nat
  obtain ⟨j, hj⟩ := Int.eq_ofNat_of_zero_le hkk.1
  rcases Nat.lt_trichotomy c3.length j with h | h | h
  · exact .inr ⟨2, by decide, dectrunc_c s _ m rfl bs hl hm hs hmg2 x0 C E Y e1 e2 e3 v n kk c1 c2 c3 hx hF hv hn hk he j hj h⟩
  · subst h
    obtain ⟨h1, h2, h3⟩ := enc_of bs hm hs hmg2 hx hF hv hn hk he hj
    rcases right_dec (vle x0) v n c3.length with hR | hR
    · exact .inl ⟨_, _, _, _, _, length_idP Y (Nat.le_refl 16), h2, h3, hR, h1⟩
    · exact .inr ⟨4, by decide, decnot_c s _ m rfl bs hl hm hs hmg2 x0 C E Y e1 e2 e3 v n kk c1 c2 c3 hx hF hv hn hk he hj hR⟩
  · exact .inr ⟨5, by decide, decmore_c s _ m rfl bs hl hm hs hmg2 x0 C E Y e1 e2 e3 v n kk c1 c2 c3 hx hF hv hn hk he j hj h⟩
theorem readpl_c (c wi t : Int) (dg : List Int) (hdg : dg.length = 32) (bdg : B8 dg) (hM : MayP c wi t) : FnC Tryd.prog 14 [] [.vs (planL c wi t dg).length (I .u8 (planL c wi t dg))] [] [] (.tu [.ag (planX c wi t dg), .i .i64 0]) := by
  obtain ⟨C, E, Y, c1, c2, h1, h2, h3, h4, h5, h6, h7⟩ := plan_data hdg hM
  have p1 := length_putV7 c.toNat
  have p2 := length_putV7 wi.toNat
  have p3 := length_putV7 t.toNat
  have h := read_c (planL c wi t dg) (B8_planL hM bdg) (by rw [length_planL]; omega) C E Y 0 0 c wi t c1 c2 h1 h2 h3 h4 h5 h6 hM
  rw [h7] at h
  exact h
theorem read_any (s : List Int) (bs : B8 s) (hl : s.length ≤ 1099511627776) : (∃ (c wi t : Int) (dg : List Int), dg.length = 32 ∧ B8 dg ∧ MayP c wi t ∧ s = planL c wi t dg) ∨
    (∃ e : Int, e ≠ 0 ∧ FnC Tryd.prog 14 [] [.vs s.length (I .u8 s)] [] [] (.tu [.ag (planX 0 0 0 (List.replicate 32 0)), .i .i64 e])) := by
  obtain ⟨e1, c1, c, hc⟩ := numS_ex s 0 65536
  obtain ⟨e2, c2, wi, hw⟩ := numS_ex c1 e1 32768
  obtain ⟨ea, ca, t, ht⟩ := numS_ex c2 e2 4194304
  obtain ⟨C, E, Y, rfl, rfl, hF⟩ := chain_ex 32 ca ea
  by_cases he : E 32 = 0
  case neg => exact .inr ⟨_, he, readerr_c s bs hl C E Y e1 e2 c wi t c1 c2 hc hw ht hF he⟩
  rcases Nat.eq_zero_or_pos (C 32).length with hm | hm
  case inr => exact .inr ⟨5, by decide, readmore_c s bs hl C E Y e1 e2 c wi t c1 c2 hc hw ht hF he hm⟩
  by_cases hM : MayP c wi t
  case neg => exact .inr ⟨4, by decide, readnot_c s bs hl C E Y e1 e2 c wi t c1 c2 hc hw ht hF he hm hM⟩
  have b3 := ht.b8 (hw.b8 (hc.b8 bs))
  have hch := chain_ok' (c0 := C 0) (Nat.le_refl _) hF b3
  exact .inl ⟨c, wi, t, _, length_idN Y (Nat.le_refl 32), B8_idN hF hch, hM, plan_of bs hc hw ht hF he hm⟩
set_option maxRecDepth 20000 in
set_option maxHeartbeats 4000000 in
theorem awake14_c  : FnC Tryd.prog 13 [(1000000, .rp (I .u32 nibT))] [] [] [] (.b true) := by
  have hM4 : MayP 4 9 10 := by unfold MayP; decide
  have b4 : B8 (planL 4 9 10 (List.replicate 32 0)) := B8_planL hM4 (B8_zeros 32)
  have p1 := length_putV7 4
  have p2 := length_putV7 9
  have p3 := length_putV7 10
  have hl4 : (planL 4 9 10 (List.replicate 32 0)).length ≤ 60 := by rw [length_planL, show (4 : Int).toNat = 4 from rfl, show (9 : Int).toNat = 9 from rfl, show (10 : Int).toNat = 10 from rfl, List.length_replicate]; omega
  have hR4 : RightR 1 0 0 (planL 4 9 10 (List.replicate 32 0)).length := by unfold RightR; omega
  have hs4 : segsN 4 10 = 3 := by unfold segsN; decide
  have b5 := B8_encL hR4 (B8_zeros 16) b4
  refine FnC.introR (N0 := 0) (T := 61) (E := [(1000000, .rp (I .u32 nibT))]) Tryd.func13 rfl (by decide) mix rfl rfl rfl (by simp) rfl trivial (by simp) (by intro S _ _ h; simp) (fun F n0 X w ρ hC hro => ?_)
  refine wsr ?_
  refine wp rfl hC (oc_assign hC .cbool rfl rfl) ?_
  refine WL_nil ?_
  refine wsr ?_
  refine wp rfl hC (ox_build (out' := planX 4 9 10 (List.replicate 32 0)) hC (.cons .cint (.cons .cint (.cons .cint .nil))) zero_24 bld_24 rfl (by unfold planX; rfl) rfl rfl) ?_
  refine wp rfl hC (ox_alloc (cs' := planX 0 0 0 (List.replicate 32 0)) hC zero_24 (by unfold planX; rfl) rfl rfl) ?_
  refine wp rfl hC (ox_store (bk' := .blk 24 (planX 4 9 10 (List.replicate 32 0))) hC (.tmp rfl) (.tmp rfl) rfl shp_24 flat_planX (by rw [cells_ag, length_planX rfl]) (by show _ ≤ (planX _ _ _ _).length; rw [length_planX rfl]; decide) (put_pall rfl rfl) (by first | exact .here | exact .s1 rfl | exact .s2 rfl rfl | exact .s3 rfl rfl rfl | exact .s4 rfl rfl rfl rfl | exact .s5 rfl rfl rfl rfl rfl | exact .s6 rfl rfl rfl rfl rfl rfl | exact .s7 rfl rfl rfl rfl rfl rfl rfl | exact .s8 rfl rfl rfl rfl rfl rfl rfl rfl) rfl) ?_
  refine WL_nil ?_
  refine wsr ?_
  refine wp rfl hC (oc_load hC (.tmp rfl) (by first | exact .p rfl | exact .rp) shp_24 (by exact (unit_pall rfl)) rfl rfl) ?_
  refine wp rfl hC (oc_callN hC (.cons (.tmp rfl) .nil) (.cons1 (.free (by first | exact inSL_I _ | simp)) (.same (by first | exact inSL_I _ | simp))) (body_c 4 9 10 (List.replicate 32 0) rfl (B8_zeros 32) hM4) glob_nil (by first | exact inSL_I _ | simp) rfl (by first | exact .inl rfl | exact .inr ⟨by simp, novsL_I _⟩ | exact .inr ⟨by simp, by simp⟩) rfl rfl) ?_
  refine wp rfl hC (oc_move hC (.tmp rfl) rfl rfl) ?_
  refine wp rfl hC (oc_extract hC (.tmp rfl) rfl rfl rfl) ?_
  refine wp rfl hC (oc_extract hC (.tmp rfl) rfl rfl rfl) ?_
  refine wp rfl hC (oc_assign hC (.tmp rfl) rfl rfl) ?_
  refine wp rfl hC (oc_assign hC (.tmp rfl) rfl rfl) ?_
  refine WL_nil ?_
  refine wsr ?_
  refine WL_weak (weak_frz (t := 2) (b := (planL 4 9 10 (List.replicate 32 0))) rfl rfl (.here rfl) rfl) ?_
  refine wp rfl hC (oc_move hC (.tmp rfl) rfl rfl) ?_
  refine wp rfl hC (ox_build (out' := recX 1 (List.replicate 16 0) 0 0 (bodyV (planL 4 9 10 (List.replicate 32 0)))) hC (.cons .cint (.cons (.tmp rfl) .nil)) zero_39 bld_39 rfl (by unfold recX; rfl) rfl rfl) ?_
  refine wp rfl hC (oc_callN hC (.cons (.tmp rfl) .nil) (.cons1 (.free (by first | exact inSL_I _ | simp)) (.same (by first | exact inSL_I _ | simp))) (encode_c 1 (List.replicate 16 0) 0 0 (planL 4 9 10 (List.replicate 32 0)) rfl (B8_zeros 16) b4 hR4) (glob_cons rfl rfl (by first | exact inSL_I _ | simp) glob_nil) (by first | exact inSL_I _ | simp) rfl (by first | exact .inl rfl | exact .inr ⟨by simp, novsL_I _⟩ | exact .inr ⟨by simp, by simp⟩) rfl rfl) ?_
  refine wp rfl hC (oc_move hC (.tmp rfl) rfl rfl) ?_
  refine wp rfl hC (oc_extract hC (.tmp rfl) rfl rfl rfl) ?_
  refine wp rfl hC (oc_extract hC (.tmp rfl) rfl rfl rfl) ?_
  refine wp rfl hC (oc_assign hC (.tmp rfl) rfl rfl) ?_
  refine wp rfl hC (oc_assign hC (.tmp rfl) rfl rfl) ?_
  refine WL_nil ?_
  refine wsr ?_
  refine WL_weak (weak_frz (t := 4) (b := (encL 1 (List.replicate 16 0) 0 0 (planL 4 9 10 (List.replicate 32 0)))) rfl rfl (.here rfl) rfl) ?_
  refine wp rfl hC (oc_move hC (.tmp rfl) rfl rfl) ?_
  refine wp rfl hC (oc_call hC (.cons (.tmp rfl) .nil) (.cons1 (by first | exact .free (by first | exact inSL_I _ | simp) | exact .row rfl rfl (by first | exact inSL_I _ | simp) | exact .nils | exact .sl1 rfl (by first | exact cut_I | rfl) (by first | exact inSL_I _ | simp)) (.same (by first | exact inSL_I _ | simp))) (decenc_c 1 (List.replicate 16 0) 0 0 (planL 4 9 10 (List.replicate 32 0)) rfl (B8_zeros 16) b4 hR4) (glob_cons rfl rfl (by first | exact inSL_I _ | simp) glob_nil) (by first | exact inSL_I _ | simp) (by first | exact .inl rfl | exact .inr (by simp)) rfl rfl) ?_
  refine wp rfl hC (oc_move hC (.tmp rfl) rfl rfl) ?_
  refine wp rfl hC (oc_extract hC (.tmp rfl) rfl rfl rfl) ?_
  refine wp rfl hC (oc_extract hC (.tmp rfl) rfl rfl rfl) ?_
  refine wp rfl hC (ox_alloc (cs' := recX 0 (List.replicate 16 0) 0 0 .nils) hC zero_39 (by unfold recX; rfl) rfl rfl) ?_
  refine wp rfl hC (ox_store (bk' := .blk 39 (recX 1 (List.replicate 16 0) 0 0 (bodyV (planL 4 9 10 (List.replicate 32 0))))) hC (.tmp rfl) (.tmp rfl) rfl shp_39 (flat_recX rfl) (by rw [cells_ag, length_recX rfl]) (by show _ ≤ (recX _ _ _ _ _).length; rw [length_recX rfl]; decide) (put_rall rfl rfl) (by first | exact .here | exact .s1 rfl | exact .s2 rfl rfl | exact .s3 rfl rfl rfl | exact .s4 rfl rfl rfl rfl | exact .s5 rfl rfl rfl rfl rfl | exact .s6 rfl rfl rfl rfl rfl rfl | exact .s7 rfl rfl rfl rfl rfl rfl rfl | exact .s8 rfl rfl rfl rfl rfl rfl rfl rfl) rfl) ?_
  refine wp rfl hC (oc_assign hC (.tmp rfl) rfl rfl) ?_
  refine WL_nil ?_
  refine wsr ?_
  refine wp rfl hC (oc_field hC (.tmp rfl) fld_39_4 (by decide) (by first | exact .p (Nat.zero_add _) | exact .p rfl | exact .rp (by decide)) rfl rfl) ?_
  refine wp rfl hC (oc_load hC (.tmp rfl) (by first | exact .p rfl | exact .rp) shp_25 (by exact (unit_rz rfl)) rfl rfl) ?_
  refine wp rfl hC (oc_call hC (.cons (.tmp rfl) .nil) (.cons1 (by first | exact .free (by first | exact inSL_I _ | simp) | exact .row rfl rfl (by first | exact inSL_I _ | simp) | exact .nils | exact .sl1 rfl (by first | exact cut_I | rfl) (by first | exact inSL_I _ | simp)) (.same (by first | exact inSL_I _ | simp))) (readpl_c 4 9 10 (List.replicate 32 0) rfl (B8_zeros 32) hM4) glob_nil (by first | exact inSL_I _ | simp) (by first | exact .inl rfl | exact .inr (by simp)) rfl rfl) ?_
  refine wp rfl hC (oc_move hC (.tmp rfl) rfl rfl) ?_
  refine wp rfl hC (oc_extract hC (.tmp rfl) rfl rfl rfl) ?_
  refine wp rfl hC (oc_extract hC (.tmp rfl) rfl rfl rfl) ?_
  refine wp rfl hC (ox_alloc (cs' := planX 0 0 0 (List.replicate 32 0)) hC zero_24 (by unfold planX; rfl) rfl rfl) ?_
  refine wp rfl hC (ox_store (bk' := .blk 24 (planX 4 9 10 (List.replicate 32 0))) hC (.tmp rfl) (.tmp rfl) rfl shp_24 flat_planX (by rw [cells_ag, length_planX rfl]) (by show _ ≤ (planX _ _ _ _).length; rw [length_planX rfl]; decide) (put_pall rfl rfl) (by first | exact .here | exact .s1 rfl | exact .s2 rfl rfl | exact .s3 rfl rfl rfl | exact .s4 rfl rfl rfl rfl | exact .s5 rfl rfl rfl rfl rfl | exact .s6 rfl rfl rfl rfl rfl rfl | exact .s7 rfl rfl rfl rfl rfl rfl rfl | exact .s8 rfl rfl rfl rfl rfl rfl rfl rfl) rfl) ?_
  refine wp rfl hC (oc_assign hC (.tmp rfl) rfl rfl) ?_
  refine WL_nil ?_
  refine wsr ?_
  refine wp rfl hC (oc_move hC (.tmp rfl) rfl rfl) ?_
  refine wp rfl hC (ox_cmp hC rfl (.tmp rfl) .cint (r := true) rfl rfl rfl) ?_
  refine wp rfl hC (oc_move hC (.tmp rfl) rfl rfl) ?_
  refine WL_cons hC.fn (.yes rfl rfl (by decide) rfl (oc_move hC (.tmp rfl) rfl rfl)) ?_
  refine WL_cons hC.fn (.yes rfl rfl (by decide) rfl (ox_cmp hC rfl (.tmp rfl) .cint (r := true) rfl rfl rfl)) ?_
  refine wp rfl hC (ox_pick hC (.tmp rfl) (.tmp rfl) .cbool (by first | exact pick_t | exact pick_f | rfl) rfl rfl) ?_
  refine wp rfl hC (oc_move hC (.tmp rfl) rfl rfl) ?_
  refine WL_cons hC.fn (.yes rfl rfl (by decide) rfl (oc_move hC (.tmp rfl) rfl rfl)) ?_
  refine WL_cons hC.fn (.yes rfl rfl (by decide) rfl (ox_cmp hC rfl (.tmp rfl) .cint (r := true) rfl rfl rfl)) ?_
  refine wp rfl hC (ox_pick hC (.tmp rfl) (.tmp rfl) .cbool (by first | exact pick_t | exact pick_f | rfl) rfl rfl) ?_
  refine wp rfl hC (oc_move hC (.tmp rfl) rfl rfl) ?_
  refine WL_cons hC.fn (.yes rfl rfl (by decide) rfl (oc_move hC (.tmp rfl) rfl rfl)) ?_
  refine WL_cons hC.fn (.yes rfl rfl (by decide) rfl (ox_cmp hC rfl (.tmp rfl) .cint (r := true) rfl rfl rfl)) ?_
  refine wp rfl hC (ox_pick hC (.tmp rfl) (.tmp rfl) .cbool (by first | exact pick_t | exact pick_f | rfl) rfl rfl) ?_
  refine wp rfl hC (oc_move hC (.tmp rfl) rfl rfl) ?_
  refine WL_cons hC.fn (.yes rfl rfl (by decide) rfl (oc_load hC (.tmp rfl) (by first | exact .p rfl | exact .rp) shp_24 (by exact (unit_pall rfl)) rfl rfl)) ?_
  refine WL_cons hC.fn (.yes rfl rfl (by decide) rfl (oc_load hC (.tmp rfl) (by first | exact .p rfl | exact .rp) shp_24 (by exact (unit_pall rfl)) rfl rfl)) ?_
  refine WL_cons hC.fn (.yes rfl rfl (by decide) rfl (ox_eqS (r := true) hC (.inl rfl) (.tmp rfl) (.tmp rfl) sh_24 kt_24 sg_24 eg_24 (by simp [Sh.plain, Sh.plainL]) (plan_hasM rfl (B8_zeros 32) hM4) (plan_hasM rfl (B8_zeros 32) hM4) (by simp) rfl rfl)) ?_
  refine wp rfl hC (ox_pick hC (.tmp rfl) (.tmp rfl) .cbool (by first | exact pick_t | exact pick_f | rfl) rfl rfl) ?_
  refine wp rfl hC (oc_move hC (.tmp rfl) rfl rfl) ?_
  refine WL_cons hC.fn (.yes rfl rfl (by decide) rfl (oc_load hC (.tmp rfl) (by first | exact .p rfl | exact .rp) shp_24 (by exact (unit_pall rfl)) rfl rfl)) ?_
  refine WL_cons hC.fn (.yes rfl rfl (by decide) rfl (oc_call hC (.cons (.tmp rfl) .nil) (.cons1 (.free (by first | exact inSL_I _ | simp)) (.same (by first | exact inSL_I _ | simp))) (segs_c 4 9 10 (List.replicate 32 0) rfl (B8_zeros 32) hM4) glob_nil (by first | exact inSL_I _ | simp) (by first | exact .inl rfl | exact .inr (by simp)) rfl rfl)) ?_
  rw [hs4]
  refine WL_cons hC.fn (.yes rfl rfl (by decide) rfl (ox_cmp hC rfl (.tmp rfl) .cint (r := true) rfl rfl rfl)) ?_
  refine wp rfl hC (ox_pick hC (.tmp rfl) (.tmp rfl) .cbool (by first | exact pick_t | exact pick_f | rfl) rfl rfl) ?_
  refine wp rfl hC (oc_move hC (.tmp rfl) rfl rfl) ?_
  refine WL_cons hC.fn (.yes rfl rfl (by decide) rfl (oc_load hC (.tmp rfl) (by first | exact .p rfl | exact .rp) shp_39 (by exact (unit_rall rfl)) rfl rfl)) ?_
  refine WL_cons hC.fn (.yes rfl rfl (by decide) rfl (oc_call hC (.cons (.tmp rfl) .nil) (.cons1 (.free (by first | exact inSL_I _ | simp)) (.same (by first | exact inSL_I _ | simp))) (right_t 1 (List.replicate 16 0) 0 0 (planL 4 9 10 (List.replicate 32 0)) rfl (B8_zeros 16) b4 hR4) glob_nil (by first | exact inSL_I _ | simp) (by first | exact .inl rfl | exact .inr (by simp)) rfl rfl)) ?_
  refine wp rfl hC (ox_pick hC (.tmp rfl) (.tmp rfl) .cbool (by first | exact pick_t | exact pick_f | rfl) rfl rfl) ?_
  refine wp rfl hC (oc_assign hC (.tmp rfl) rfl rfl) ?_
  refine WL_nil ?_
  refine W_ret ?_
  exact fin0 (.cons (.tmp rfl) .nil) rfl trivial
end Go.Proofs.YtlcgojhopdikbaaDoor
