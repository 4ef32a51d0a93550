/- Own work, printed by a program of this claim: walks through functions of the program. -/
import Derived.Test.YtibldhfgapjpfaaDoorW2
import Derived.Test.YtibldhfgapjpfaaDoorProg
import Derived.KernelRfl
set_option linter.unusedSimpArgs false
set_option linter.unusedVariables false
namespace Go.Proofs.YtibldhfgapjpfaaDoor
open Go.Sk Go.RowKit
attribute [local simp] AV.inSL AV.inS inSL_I Blk.inS Blk.cs AV.novs AV.novsL novsL_I AV.ren AV.cells AV.one lk tuAV
theorem bld_25 : bldOK Tryd.prog 25 = true := by kernel_rfl
theorem bld_31 : bldOK Tryd.prog 31 = true := by kernel_rfl
theorem bld_58 : bldOK Tryd.prog 58 = true := by kernel_rfl
theorem cells_22 : Tryd.prog.cellsOf 22 = 1 := by kernel_rfl
theorem cells_3 : Tryd.prog.cellsOf 3 = 1 := by kernel_rfl
theorem cells_65 : Tryd.prog.cellsOf 65 = 1 := by kernel_rfl
theorem elt_58 : elt Tryd.prog 58 = some (3, false, 1) := by kernel_rfl
theorem fld_25_0 : fld Tryd.prog 25 0 = some (0, true, 16) := by kernel_rfl
theorem fld_25_1 : fld Tryd.prog 25 1 = some (16, false, 1) := by kernel_rfl
theorem fld_25_2 : fld Tryd.prog 25 2 = some (17, false, 1) := by kernel_rfl
theorem fld_25_3 : fld Tryd.prog 25 3 = some (18, false, 1) := by kernel_rfl
theorem fld_31_0 : fld Tryd.prog 31 0 = some (0, true, 16) := by kernel_rfl
theorem fld_31_1 : fld Tryd.prog 31 1 = some (16, false, 1) := by kernel_rfl
theorem fld_31_2 : fld Tryd.prog 31 2 = some (17, false, 1) := by kernel_rfl
theorem fld_31_3 : fld Tryd.prog 31 3 = some (18, false, 1) := by kernel_rfl
theorem idx_23 : idx Tryd.prog 23 = some (some 16, 1) := by kernel_rfl
theorem idx_66 : idx Tryd.prog 66 = some (none, 1) := by kernel_rfl
theorem idx_70 : idx Tryd.prog 70 = some (none, 1) := by kernel_rfl
theorem idx_80 : idx Tryd.prog 80 = some (some 16, 1) := by kernel_rfl
theorem shp_23 : shp Tryd.prog 23 = some (true, 16) := by kernel_rfl
theorem shp_25 : shp Tryd.prog 25 = some (true, 19) := by kernel_rfl
theorem shp_31 : shp Tryd.prog 31 = some (true, 19) := by kernel_rfl
theorem shp_52 : shp Tryd.prog 52 = some (false, 1) := by kernel_rfl
theorem shp_65 : shp Tryd.prog 65 = some (false, 1) := by kernel_rfl
theorem zero_22 : zeroAV Tryd.prog 22 = some [.nils] := by kernel_rfl
theorem zero_25 : zeroAV Tryd.prog 25 = some [.i .u8 0, .i .u8 0, .i .u8 0, .i .u8 0, .i .u8 0, .i .u8 0, .i .u8 0, .i .u8 0, .i .u8 0, .i .u8 0, .i .u8 0, .i .u8 0, .i .u8 0, .i .u8 0, .i .u8 0, .i .u8 0, .i .i64 0, .i .i64 0, .i .i64 0] := by kernel_rfl
theorem zero_31 : zeroAV Tryd.prog 31 = some [.i .u8 0, .i .u8 0, .i .u8 0, .i .u8 0, .i .u8 0, .i .u8 0, .i .u8 0, .i .u8 0, .i .u8 0, .i .u8 0, .i .u8 0, .i .u8 0, .i .u8 0, .i .u8 0, .i .u8 0, .i .u8 0, .i .i64 0, .i .i64 0, .i .i64 0] := by kernel_rfl
theorem zero_58 : zeroAV Tryd.prog 58 = some (I .i64 (List.replicate 3 0)) := by kernel_rfl
theorem zero_65 : zeroAV Tryd.prog 65 = some [.nilp] := by kernel_rfl
theorem num_u (b b1 : List Int) (e e1 : Int) (hb8 : B8 b) (hl : b.length ≤ 1099511627776) (most v : Int) (hN : NumS b e most e1 b1 v) : FnC Tryd.prog 35 [] [.p 0 0, .i .i64 most] [(0, .blk 73 [.vs b.length (I .u8 b), .i .i64 e])] [(0, .blk 73 [.vs b1.length (I .u8 b1), .i .i64 e1])] (.i .i64 v) := by
  cases hN with
  | err he => exact numerr_c _ b e rfl hb8 hl most he
  | go he hR =>
    cases hR with
    | long h =>
      have hix := ix7_le b
      rcases Nat.lt_or_ge (ix7 b) b.length with h1 | h1
      · exact numlongA_c _ b e rfl hb8 hl most he h h1
      · exact numlongB_c _ b e rfl hb8 hl most he h (by omega)
    | short h h6 => exact numshort_c _ b e rfl hb8 hl most he h h6
    | nought h h6 h0 hz => rw [List.length_drop]; exact numnought_c _ b e rfl hb8 hl most he h h6 h0 hz
    | great h h6 hz hm => rw [List.length_drop]; exact numgreat_c _ b e rfl hb8 hl most he h h6 hz (by omega)
    | ok h h6 hz hm => rw [List.length_drop]; subst he; exact num_c _ b 0 rfl hb8 hl most rfl h h6 hz hm
theorem fixr_u (b b1 : List Int) (e e1 : Int) (hb8 : B8 b) (hl : b.length ≤ 1099511627776) (x : List Int) (width : Int) (hN : FixS b e width e1 b1 x) : FnC Tryd.prog 34 [] [.p 0 0, .i .i64 width] [(0, .blk 73 [.vs b.length (I .u8 b), .i .i64 e])] [(0, .blk 73 [.vs b1.length (I .u8 b1), .i .i64 e1])] (.i .u64 (vle x)) := by
  cases hN with
  | err he =>
    rcases (show (width < 0 ∨ (0 ≤ width ∧ 8 < width)) ∨ (0 ≤ width ∧ width ≤ 8) by omega) with h | h
    · rw [vle_nil]; exact fixrange_c _ b e rfl hb8 hl width e h (.inr ⟨he, rfl⟩)
    · obtain ⟨wd, rfl⟩ := Int.eq_ofNat_of_zero_le h.1
      exact fixrerr_c _ b e rfl hb8 hl wd (by omega) he
  | range he hw => rw [vle_nil]; exact fixrange_c _ b e rfl hb8 hl width 3 hw (.inl ⟨he, rfl⟩)
  | short wd he hw h8 hk => subst hw; exact fixrshort_c _ b e rfl hb8 hl wd h8 he hk
  | ok wd he hw h8 hk => subst hw; rw [List.length_drop]; subst he; exact fixr_c _ b 0 rfl hb8 hl wd h8 rfl hk
set_option maxRecDepth 20000 in
set_option maxHeartbeats 4000000 in
theorem update_c (m n ni : Nat) (b : List Int) (hn : b.length = n) (hb : B8 b) (hl : n ≤ 1099511627776) (hm : m < 4294967296) (h0 : m ^^^ 4294967295 = ni) : FnC Tryd.prog 39 [(1000000, .rp (I .u32 nibT))] [.i .u32 ((m : Nat) : Int), .vs n (I .u8 b)] [] [] (.i .u32 ((crcL ni b ^^^ 4294967295 : Nat) : Int)) := by
  have hnl := length_nibT
  have hn0 : ni < 2 ^ 32 := by rw [← h0]; exact Nat.xor_lt_two_pow (by omega) (by decide)
  refine FnC.introR (N0 := 0) (T := 36) (E := [(0, .i .u32 ((m : Nat) : Int)), (1, .vs n (I .u8 b)), (1000000, .rp (I .u32 nibT))]) Tryd.func39 rfl (by decide) mix rfl rfl rfl (by simp) rfl ⟨(by first | exact inSL_I _ | trivial | simp), (by first | exact inSL_I _ | trivial | simp), trivial⟩ (by simp) (by intro S _ _ h; simp) (fun F n0 X w ρ hC hro => ?_)
  refine wsr ?_
  refine wp rfl hC (oc_assign hC .cint rfl rfl) ?_
  refine WL_nil ?_
  refine wsr ?_
  refine wp rfl hC (oc_move hC (.tmp rfl) rfl rfl) ?_
  refine wp rfl hC (oc_neg hC (.inr rfl) (.tmp rfl) (r := ((ni : Nat) : Int)) ((not_u32 hm).trans (by rw [h0])) rfl rfl) ?_
  refine wp rfl hC (oc_assign hC (.tmp rfl) rfl rfl) ?_
  refine WL_nil ?_
  refine W_seq ?_
  refine wsr ?_
  refine wp rfl hC (oc_move hC (.tmp rfl) rfl rfl) ?_
  refine wp rfl hC (ox_len hC (.tmp rfl) (by first | exact .row rfl | exact .vs | exact .sl rfl | exact .nils) Tryd.underlying22 rfl rfl rfl) ?_
  refine wp rfl hC (oc_move hC .cint rfl rfl) ?_
  refine WL_nil ?_
  refine W_blk ?_
  refine W_loopW (fun (ζ : Nat) => ⟨0, [(0, .i .u32 (((crcL ni (b.take ζ)) : Nat) : Int)), (9, .vs n (I .u8 b)), (10, .i .i64 n), (11, .i .i64 ζ), (1000000, .rp (I .u32 nibT))], []⟩) (fun ζ => ζ ≤ n) (fun ζ => n - ζ) (0) (Nat.zero_le _) (weak (fun k => k) (.cons rfl (congrArg (AV.i _) (by rw [List.take_zero, crcL_nil])) trivial (.cons rfl (by first | exact ren_agI | exact ren_vsI | exact ren_free _ _ (by first | exact inSL_I _ | simp)) (by first | exact inSL_I _ | simp) (.cons rfl (by first | rfl | exact congrArg (AV.i _) (by omega) | exact congrArg (AV.i _) (by simp; omega)) trivial (.cons rfl rfl trivial (.cons rfl (by first | exact ren_agI | exact ren_vsI | exact ren_free _ _ (by first | exact inSL_I _ | simp)) (by first | exact inSL_I _ | simp) .nil))))) .nil rfl rfl rfl) ?_
  intro i hR
  replace hR : i ≤ n := hR
  first | show W _ _ _ ⟨0, [(0, .i .u32 (((crcL ni (b.take i)) : Nat) : Int)), (9, .vs n (I .u8 b)), (10, .i .i64 n), (11, .i .i64 i), (1000000, .rp (I .u32 nibT))], []⟩ | skip
  have hx := hb.get i
  have hc := crcL_lt (l := b.take i) (n := ni) (fun x hx => hb x (List.mem_of_mem_take hx)) (by omega)
  have hX : ((crcL ni (b.take i)) ^^^ (b.getD i 0).toNat) < 2 ^ 32 := Nat.xor_lt_two_pow (by omega) (by omega)
  have hY : (bsts 4 ((crcL ni (b.take i)) ^^^ (b.getD i 0).toNat)) < 4294967296 := bsts_lt (by omega) 4
  refine wsr ?_
  refine wp rfl hC (ox_cmp hC rfl (.tmp rfl) (.tmp rfl) rfl rfl rfl) ?_
  refine WL_nil ?_
  refine W_seq ?_
  refine W_cond rfl (by decide) (fun hc => ?_) (fun hc => ?_)
  ·
    replace hc := lss_t hc
    
    refine W_skip ?_
    refine W_seq ?_
    refine W_blk ?_
    refine wsr ?_
    refine wp rfl hC (ox_indexS hC (j := i) (.tmp rfl) (.tmp rfl) idx_22 (by first | rfl | omega | (simp; omega)) (by first | exact Nat.mul_one _ | rfl) (by first | exact .row rfl | exact .sl (Nat.zero_add _) | exact .sl rfl | exact .vs (by first | omega | (simp <;> fail) | (simp; omega))) (by first | omega | (simp <;> fail) | (simp; omega)) rfl rfl) ?_
    refine wp rfl hC (oc_load hC (.tmp rfl) (by first | exact .p rfl | exact .rp) shp_5 (by exact (unit_I (by first | omega | (simp <;> fail) | (simp; omega)))) rfl rfl) ?_
    refine wp rfl hC (oc_assign hC (.tmp rfl) rfl rfl) ?_
    refine WL_nil ?_
    refine wsr ?_
    refine wp rfl hC (oc_move hC (.tmp rfl) rfl rfl) ?_
    refine wp rfl hC (oc_move hC (.tmp rfl) rfl rfl) ?_
    refine wp rfl hC (oc_conv hC (.tmp rfl) rfl Tryd.underlying52 (r := (((b.getD i 0).toNat : Nat) : Int)) ((u32_conv (by omega)).trans (by omega)) rfl rfl) ?_
    refine wp rfl hC (oc_bin hC rfl (.tmp rfl) (.tmp rfl) (r := ((((crcL ni (b.take i)) ^^^ (b.getD i 0).toNat) : Nat) : Int)) (xor_u32 (by omega) (by omega)) rfl rfl) ?_
    refine wp rfl hC (oc_assign hC (.tmp rfl) rfl rfl) ?_
    refine WL_nil ?_
    refine wsr ?_
    refine wp rfl hC (oc_move hC (.tmp rfl) rfl rfl) ?_
    refine wp rfl hC (oc_bin hC rfl (.tmp rfl) .cint (r := ((((crcL ni (b.take i)) ^^^ (b.getD i 0).toNat) % 16 : Nat) : Int)) (and15_u32 (by omega)) rfl rfl) ?_
    refine wp rfl hC (ox_indexA hC (j := (((crcL ni (b.take i)) ^^^ (b.getD i 0).toNat) % 16)) (.glob rfl) (.tmp rfl) idx_80 rfl (by omega) (by first | exact Nat.mul_one _ | rfl) (by first | exact .p (Nat.zero_add _) | exact .p rfl | exact .rp (by first | omega | (simp <;> fail) | (simp; omega))) rfl rfl) ?_
    refine wp rfl hC (oc_load hC (v := .i .u32 ((bsts 4 (((crcL ni (b.take i)) ^^^ (b.getD i 0).toNat) % 16) : Nat) : Int)) (.tmp rfl) (by first | exact .p rfl | exact .rp) shp_52 (by exact (unit_at (by omega) (nib_get (by omega)))) rfl rfl) ?_
    refine wp rfl hC (oc_move hC (.tmp rfl) rfl rfl) ?_
    refine wp rfl hC (oc_shift hC (.inr rfl) (.tmp rfl) .cint (by first | decide | omega) (r := ((((crcL ni (b.take i)) ^^^ (b.getD i 0).toNat) / 16 : Nat) : Int)) shr4_u32 rfl rfl) ?_
    refine wp rfl hC (oc_bin hC rfl (.tmp rfl) (.tmp rfl) (r := (((bsts 4 ((crcL ni (b.take i)) ^^^ (b.getD i 0).toNat)) : Nat) : Int)) ((xor_u32 (bsts_lt (by omega) 4) (by omega)).trans (by rw [nib_step])) rfl rfl) ?_
    refine wp rfl hC (oc_assign hC (.tmp rfl) rfl rfl) ?_
    refine WL_nil ?_
    refine W_region ?_
    refine wp rfl hC (oc_move hC (.tmp rfl) rfl rfl) ?_
    refine wp rfl hC (oc_bin hC rfl (.tmp rfl) .cint (r := (((bsts 4 ((crcL ni (b.take i)) ^^^ (b.getD i 0).toNat)) % 16 : Nat) : Int)) (and15_u32 (by omega)) rfl rfl) ?_
    refine wp rfl hC (ox_indexA hC (j := ((bsts 4 ((crcL ni (b.take i)) ^^^ (b.getD i 0).toNat)) % 16)) (.glob rfl) (.tmp rfl) idx_80 rfl (by omega) (by first | exact Nat.mul_one _ | rfl) (by first | exact .p (Nat.zero_add _) | exact .p rfl | exact .rp (by first | omega | (simp <;> fail) | (simp; omega))) rfl rfl) ?_
    refine wp rfl hC (oc_load hC (v := .i .u32 ((bsts 4 ((bsts 4 ((crcL ni (b.take i)) ^^^ (b.getD i 0).toNat)) % 16) : Nat) : Int)) (.tmp rfl) (by first | exact .p rfl | exact .rp) shp_52 (by exact (unit_at (by omega) (nib_get (by omega)))) rfl rfl) ?_
    refine wp rfl hC (oc_move hC (.tmp rfl) rfl rfl) ?_
    refine wp rfl hC (oc_shift hC (.inr rfl) (.tmp rfl) .cint (by first | decide | omega) (r := (((bsts 4 ((crcL ni (b.take i)) ^^^ (b.getD i 0).toNat)) / 16 : Nat) : Int)) shr4_u32 rfl rfl) ?_
    refine wp rfl hC (oc_bin hC rfl (.tmp rfl) (.tmp rfl) (r := ((bsts 4 (bsts 4 ((crcL ni (b.take i)) ^^^ (b.getD i 0).toNat)) : Nat) : Int)) ((xor_u32 (bsts_lt (by omega) 4) (by omega)).trans (by rw [nib_step])) rfl rfl) ?_
    refine wp rfl hC (oc_assign hC (.tmp rfl) rfl rfl) ?_
    refine WL_nil ?_
    refine W_region ?_
    refine wp rfl hC (oc_bin hC rfl (.tmp rfl) .cint (by first | exact i64_add (by omega) | rfl) rfl rfl) ?_
    refine wp rfl hC (oc_move hC (.tmp rfl) rfl rfl) ?_
    refine WL_nil ?_
    exact ⟨(i + 1), (by omega), (weak (fun k => k) (.cons rfl (congrArg (AV.i _) (by rw [← crc_take (by omega), crcB_eq])) trivial (.cons rfl (by first | exact ren_agI | exact ren_vsI | exact ren_free _ _ (by first | exact inSL_I _ | simp)) (by first | exact inSL_I _ | simp) (.cons rfl (by first | rfl | exact congrArg (AV.i _) (by omega) | exact congrArg (AV.i _) (by simp; omega)) trivial (.cons rfl (by first | rfl | exact congrArg (AV.i _) (by omega) | exact congrArg (AV.i _) (by simp; omega)) trivial (.cons rfl (by first | exact ren_agI | exact ren_vsI | exact ren_free _ _ (by first | exact inSL_I _ | simp)) (by first | exact inSL_I _ | simp) .nil))))) .nil rfl rfl rfl), (by omega)⟩
  ·
    replace hc := lss_f hc
    obtain rfl : i = n := by omega
    rw [List.take_of_length_le (show b.length ≤ i by omega)]
    refine W_exit ?_
    refine wsr ?_
    refine wp rfl hC (oc_move hC (.tmp rfl) rfl rfl) ?_
    refine wp rfl hC (oc_neg hC (.inr rfl) (.tmp rfl) (r := ((crcL ni b ^^^ 4294967295 : Nat) : Int)) (not_u32 (crcL_lt hb (by omega))) rfl rfl) ?_
    refine wp rfl hC (oc_assign hC (.tmp rfl) rfl rfl) ?_
    refine WL_nil ?_
    refine W_ret ?_
    exact fin0 (.cons (.tmp rfl) .nil) rfl trivial
set_option maxRecDepth 20000 in
set_option maxHeartbeats 4000000 in
theorem sumof_c (n : Nat) (b : List Int) (hn : b.length = n) (hb : B8 b) (hl : n ≤ 1099511627776) : FnC Tryd.prog 30 [(1000000, .rp (I .u32 nibT))] [.vs 1 [.vs n (I .u8 b)]] [] [] (.i .u32 ((crcS b : Nat) : Int)) := by
  have hcs : crcL 4294967295 b ^^^ 4294967295 = crcS b := by unfold crcS; rfl
  refine FnC.introR (N0 := 0) (T := 17) (E := [(0, .vs 1 [.vs n (I .u8 b)]), (1000000, .rp (I .u32 nibT))]) Tryd.func30 rfl (by decide) mix rfl rfl rfl (by simp) rfl ⟨(by first | exact inSL_I _ | trivial | simp), trivial⟩ (by simp) (by intro S _ _ h; simp) (fun F n0 X w ρ hC hro => ?_)
  refine wsr ?_
  refine wp rfl hC (oc_assign hC .cint rfl rfl) ?_
  refine WL_nil ?_
  refine wsr ?_
  refine wp rfl hC (oc_assign hC .cint rfl rfl) ?_
  refine WL_nil ?_
  refine W_seq ?_
  refine wsr ?_
  refine wp rfl hC (oc_move hC (.tmp rfl) rfl rfl) ?_
  refine wp rfl hC (ox_len hC (.tmp rfl) (by first | exact .row rfl | exact .vs | exact .sl rfl | exact .nils) Tryd.underlying70 rfl rfl rfl) ?_
  refine wp rfl hC (oc_move hC .cint rfl rfl) ?_
  refine WL_nil ?_
  refine W_blk ?_
  refine W_loopW (fun (ζ : Nat) => ⟨0, [(3, .i .u32 ((if ζ = 0 then 0 else crcS b : Nat) : Int)), (6, .vs 1 [.vs n (I .u8 b)]), (7, .i .i64 1), (8, .i .i64 ζ), (1000000, .rp (I .u32 nibT))], []⟩) (fun ζ => ζ ≤ 1) (fun ζ => 1 - ζ) (0) (by decide) (weak (fun k => k) (.cons rfl rfl trivial (.cons rfl (by first | exact ren_agI | exact ren_vsI | exact ren_free _ _ (by first | exact inSL_I _ | simp)) (by first | exact inSL_I _ | simp) (.cons rfl (by first | rfl | exact congrArg (AV.i _) (by omega) | exact congrArg (AV.i _) (by simp; omega)) trivial (.cons rfl rfl trivial (.cons rfl (by first | exact ren_agI | exact ren_vsI | exact ren_free _ _ (by first | exact inSL_I _ | simp)) (by first | exact inSL_I _ | simp) .nil))))) .nil rfl rfl rfl) ?_
  intro i hR
  replace hR : i ≤ 1 := hR
  first | show W _ _ _ ⟨0, [(3, .i .u32 ((if i = 0 then 0 else crcS b : Nat) : Int)), (6, .vs 1 [.vs n (I .u8 b)]), (7, .i .i64 1), (8, .i .i64 i), (1000000, .rp (I .u32 nibT))], []⟩ | skip
  refine wsr ?_
  refine wp rfl hC (ox_cmp hC rfl (.tmp rfl) (.tmp rfl) rfl rfl rfl) ?_
  refine WL_nil ?_
  refine W_seq ?_
  refine W_cond rfl (by decide) (fun hc => ?_) (fun hc => ?_)
  ·
    replace hc := lss_t hc
    obtain rfl : i = 0 := by omega
    refine W_skip ?_
    refine W_seq ?_
    refine W_blk ?_
    refine wsr ?_
    refine wp rfl hC (ox_indexS hC (j := 0) (.tmp rfl) (.tmp rfl) idx_70 rfl (by first | exact Nat.mul_one _ | rfl) (by first | exact .row rfl | exact .sl (Nat.zero_add _) | exact .sl rfl | exact .vs (by first | omega | (simp <;> fail) | (simp; omega))) (by first | omega | (simp <;> fail) | (simp; omega)) rfl rfl) ?_
    refine wp rfl hC (oc_load hC (v := .vs n (I .u8 b)) (.tmp rfl) (by first | exact .p rfl | exact .rp) shp_22 (by exact (unit_c rfl (by simp))) rfl rfl) ?_
    refine wp rfl hC (oc_assign hC (.tmp rfl) rfl rfl) ?_
    refine WL_nil ?_
    refine W_region ?_
    refine wp rfl hC (oc_move hC (.tmp rfl) rfl rfl) ?_
    refine wp rfl hC (oc_move hC (.tmp rfl) rfl rfl) ?_
    refine wp rfl hC (oc_call hC (.cons (.tmp rfl) (.cons (.tmp rfl) .nil)) (.cons1 (.free (by first | exact inSL_I _ | simp)) (.cons1 (by first | exact .free (by first | exact inSL_I _ | simp) | exact .row rfl rfl (by first | exact inSL_I _ | simp) | exact .nils | exact .sl1 rfl (by first | exact cut_I | rfl) (by first | exact inSL_I _ | simp)) (.same (by first | exact inSL_I _ | simp)))) (update_c 0 n 4294967295 b hn hb hl (by decide) (by decide)) (glob_cons rfl rfl (by first | exact inSL_I _ | simp) glob_nil) (by first | exact inSL_I _ | simp) (by first | exact .inl rfl | exact .inr (by simp)) rfl rfl) ?_
    rw [hcs]
    refine wp rfl hC (oc_assign hC (.tmp rfl) rfl rfl) ?_
    refine WL_nil ?_
    refine W_region ?_
    refine wp rfl hC (oc_bin hC rfl (.tmp rfl) .cint (by first | exact i64_add (by omega) | rfl) rfl rfl) ?_
    refine wp rfl hC (oc_move hC (.tmp rfl) rfl rfl) ?_
    refine WL_nil ?_
    exact ⟨(1), (by decide), (weak (fun k => k) (.cons rfl rfl trivial (.cons rfl (by first | exact ren_agI | exact ren_vsI | exact ren_free _ _ (by first | exact inSL_I _ | simp)) (by first | exact inSL_I _ | simp) (.cons rfl (by first | rfl | exact congrArg (AV.i _) (by omega) | exact congrArg (AV.i _) (by simp; omega)) trivial (.cons rfl rfl trivial (.cons rfl (by first | exact ren_agI | exact ren_vsI | exact ren_free _ _ (by first | exact inSL_I _ | simp)) (by first | exact inSL_I _ | simp) .nil))))) .nil rfl rfl rfl), (by omega)⟩
  ·
    replace hc := lss_f hc
    obtain rfl : i = 1 := by omega
    refine W_exit ?_
    refine wsr ?_
    refine wp rfl hC (oc_move hC (.tmp rfl) rfl rfl) ?_
    refine wp rfl hC (oc_assign hC (.tmp rfl) rfl rfl) ?_
    refine WL_nil ?_
    refine W_ret ?_
    exact fin0 (.cons (.tmp rfl) .nil) rfl trivial
set_option maxRecDepth 20000 in
set_option maxHeartbeats 4000000 in
theorem rsum_c (n : Nat) (b : List Int) (hn : b.length = n) (hb : B8 b) (hl : n ≤ 1099511627776) : FnC Tryd.prog 23 [] [.vs n (I .u8 b)] [] [] (.i .u32 ((crcS b : Nat) : Int)) := by
  have hcs : crcL 4294967295 b ^^^ 4294967295 = crcS b := by unfold crcS; rfl
  refine FnC.introR (N0 := 0) (T := 34) (E := [(0, .vs n (I .u8 b))]) Tryd.func23 rfl (by decide) mix rfl rfl rfl (by simp) rfl ⟨(by first | exact inSL_I _ | trivial | simp), trivial⟩ (by simp) (by intro S _ _ h; simp) (fun F n0 X w ρ hC hro => ?_)
  refine wsr ?_
  refine wp rfl hC (oc_assign hC .cint rfl rfl) ?_
  refine WL_nil ?_
  refine wsr ?_
  refine wp rfl hC (oc_assign hC .cint rfl rfl) ?_
  refine WL_nil ?_
  refine W_seq ?_
  refine wsr ?_
  refine wp rfl hC (oc_assign hC .cint rfl rfl) ?_
  refine WL_nil ?_
  refine W_blk ?_
  refine W_loopW (fun (ζ : Nat) => ⟨0, [(0, .vs n (I .u8 b)), (3, .i .u32 (((crcL 4294967295 (b.take ζ)) : Nat) : Int)), (4, .i .i64 ζ)], []⟩) (fun ζ => ζ ≤ n) (fun ζ => n - ζ) (0) (Nat.zero_le _) (weak (fun k => k) (.cons rfl (by first | exact ren_agI | exact ren_vsI | exact ren_free _ _ (by first | exact inSL_I _ | simp)) (by first | exact inSL_I _ | simp) (.cons rfl (congrArg (AV.i _) (by rw [List.take_zero, crcL_nil]; rfl)) trivial (.cons rfl rfl trivial .nil))) .nil rfl rfl rfl) ?_
  intro i hR
  replace hR : i ≤ n := hR
  first | show W _ _ _ ⟨0, [(0, .vs n (I .u8 b)), (3, .i .u32 (((crcL 4294967295 (b.take i)) : Nat) : Int)), (4, .i .i64 i)], []⟩ | skip
  have hx := hb.get i
  have hc := crcL_lt (l := b.take i) (n := 4294967295) (fun x hx => hb x (List.mem_of_mem_take hx)) (by decide)
  have hX : ((crcL 4294967295 (b.take i)) ^^^ (b.getD i 0).toNat) < 2 ^ 32 := Nat.xor_lt_two_pow (by omega) (by omega)
  refine W_seq ?_
  refine wsr ?_
  refine wp rfl hC (oc_move hC (.tmp rfl) rfl rfl) ?_
  refine wp rfl hC (oc_move hC (.tmp rfl) rfl rfl) ?_
  refine wp rfl hC (ox_len hC (.tmp rfl) (by first | exact .row rfl | exact .vs | exact .sl rfl | exact .nils) Tryd.underlying22 rfl rfl rfl) ?_
  refine wp rfl hC (ox_cmp hC rfl (.tmp rfl) (.tmp rfl) rfl rfl rfl) ?_
  refine WL_nil ?_
  refine W_cond rfl (by decide) (fun hc => ?_) (fun hc => ?_)
  ·
    replace hc := lss_t hc
    
    refine W_skip ?_
    refine W_seq ?_
    refine W_blk ?_
    refine wsr ?_
    refine wp rfl hC (oc_move hC (.tmp rfl) rfl rfl) ?_
    refine wp rfl hC (oc_move hC (.tmp rfl) rfl rfl) ?_
    refine wp rfl hC (oc_move hC (.tmp rfl) rfl rfl) ?_
    refine wp rfl hC (ox_indexS hC (j := i) (.tmp rfl) (.tmp rfl) idx_22 (by first | rfl | omega | (simp; omega)) (by first | exact Nat.mul_one _ | rfl) (by first | exact .row rfl | exact .sl (Nat.zero_add _) | exact .sl rfl | exact .vs (by first | omega | (simp <;> fail) | (simp; omega))) (by first | omega | (simp <;> fail) | (simp; omega)) rfl rfl) ?_
    refine wp rfl hC (oc_load hC (.tmp rfl) (by first | exact .p rfl | exact .rp) shp_5 (by exact (unit_I (by first | omega | (simp <;> fail) | (simp; omega)))) rfl rfl) ?_
    refine wp rfl hC (oc_conv hC (.tmp rfl) rfl Tryd.underlying52 (r := (((b.getD i 0).toNat : Nat) : Int)) ((u32_conv (by omega)).trans (by omega)) rfl rfl) ?_
    refine wp rfl hC (oc_bin hC rfl (.tmp rfl) (.tmp rfl) (r := ((((crcL 4294967295 (b.take i)) ^^^ (b.getD i 0).toNat) : Nat) : Int)) (xor_u32 (by omega) (by omega)) rfl rfl) ?_
    refine wp rfl hC (oc_assign hC (.tmp rfl) rfl rfl) ?_
    refine WL_nil ?_
    refine wsr ?_
    refine wp rfl hC (oc_assign hC .cint rfl rfl) ?_
    refine WL_nil ?_
    refine W_blk ?_
    refine W_loopW (fun (ζ : Nat) => ⟨0, [(0, .vs n (I .u8 b)), (3, .i .u32 (((bsts ζ ((crcL 4294967295 (b.take i)) ^^^ (b.getD i 0).toNat)) : Nat) : Int)), (4, .i .i64 i), (5, .i .i64 ζ)], []⟩) (fun ζ => ζ ≤ 8) (fun ζ => 8 - ζ) (0) (Nat.zero_le _) (weak (fun k => k) (.cons rfl (by first | exact ren_agI | exact ren_vsI | exact ren_free _ _ (by first | exact inSL_I _ | simp)) (by first | exact inSL_I _ | simp) (.cons rfl (congrArg (AV.i _) (by rw [bsts_zero])) trivial (.cons rfl (by first | rfl | exact congrArg (AV.i _) (by omega) | exact congrArg (AV.i _) (by simp; omega)) trivial (.cons rfl rfl trivial .nil)))) .nil rfl rfl rfl) ?_
    intro j hR
    replace hR : j ≤ 8 := hR
    first | show W _ _ _ ⟨0, [(0, .vs n (I .u8 b)), (3, .i .u32 (((bsts j ((crcL 4294967295 (b.take i)) ^^^ (b.getD i 0).toNat)) : Nat) : Int)), (4, .i .i64 i), (5, .i .i64 j)], []⟩ | skip
    have hB : (bsts j ((crcL 4294967295 (b.take i)) ^^^ (b.getD i 0).toNat)) < 4294967296 := bsts_lt (by omega) j
    refine W_seq ?_
    refine wsr ?_
    refine wp rfl hC (oc_move hC (.tmp rfl) rfl rfl) ?_
    refine wp rfl hC (ox_cmp hC rfl (.tmp rfl) .cint rfl rfl rfl) ?_
    refine WL_nil ?_
    refine W_cond rfl (by decide) (fun hc => ?_) (fun hc => ?_)
    ·
      replace hc := lss_t hc
      
      refine W_skip ?_
      refine W_seq ?_
      refine W_blk ?_
      refine wsr ?_
      refine wp rfl hC (oc_move hC (.tmp rfl) rfl rfl) ?_
      refine wp rfl hC (oc_div hC (.inr rfl) (.tmp rfl) .cint (by first | decide | omega) (r := (((bsts j ((crcL 4294967295 (b.take i)) ^^^ (b.getD i 0).toNat)) % 2 : Nat) : Int)) nrem_u32 rfl rfl) ?_
      refine wp rfl hC (oc_assign hC (.tmp rfl) rfl rfl) ?_
      refine WL_nil ?_
      refine wsr ?_
      refine wp rfl hC (oc_move hC (.tmp rfl) rfl rfl) ?_
      refine wp rfl hC (oc_div hC (.inl rfl) (.tmp rfl) .cint (by first | decide | omega) (r := (((bsts j ((crcL 4294967295 (b.take i)) ^^^ (b.getD i 0).toNat)) / 2 : Nat) : Int)) (nquo_u32 hB) rfl rfl) ?_
      refine wp rfl hC (oc_assign hC (.tmp rfl) rfl rfl) ?_
      refine WL_nil ?_
      refine W_seq ?_
      rcases Nat.mod_two_eq_zero_or_one (bsts j ((crcL 4294967295 (b.take i)) ^^^ (b.getD i 0).toNat)) with h | h
      ·
        have hbs : bst (bsts j ((crcL 4294967295 (b.take i)) ^^^ (b.getD i 0).toNat)) = (bsts j ((crcL 4294967295 (b.take i)) ^^^ (b.getD i 0).toNat)) / 2 := bst_0 h
        refine W_region ?_
        refine wp rfl hC (oc_move hC (.tmp rfl) rfl rfl) ?_
        refine wp rfl hC (ox_cmp hC rfl (.tmp rfl) .cint (r := false) (by rw [h]; rfl) rfl rfl) ?_
        refine WL_nil ?_
        refine W_cond rfl (by decide) (fun hc => by cases hc) (fun _ => ?_)
        refine W_skip ?_
        refine W_region ?_
        refine wp rfl hC (oc_move hC (.tmp rfl) rfl rfl) ?_
        refine wp rfl hC (oc_bin hC rfl (.tmp rfl) .cint (by first | exact i64_add (by omega) | rfl) rfl rfl) ?_
        refine wp rfl hC (oc_assign hC (.tmp rfl) rfl rfl) ?_
        refine WL_nil ?_
        exact ⟨(j + 1), (by omega), (weak (fun k => k) (.cons rfl (by first | exact ren_agI | exact ren_vsI | exact ren_free _ _ (by first | exact inSL_I _ | simp)) (by first | exact inSL_I _ | simp) (.cons rfl (congrArg (AV.i _) (by rw [bsts_succ, hbs])) trivial (.cons rfl (by first | rfl | exact congrArg (AV.i _) (by omega) | exact congrArg (AV.i _) (by simp; omega)) trivial (.cons rfl (by first | rfl | exact congrArg (AV.i _) (by omega) | exact congrArg (AV.i _) (by simp; omega)) trivial .nil)))) .nil rfl rfl rfl), (by omega)⟩
      ·
        have hbs : bst (bsts j ((crcL 4294967295 (b.take i)) ^^^ (b.getD i 0).toNat)) = (bsts j ((crcL 4294967295 (b.take i)) ^^^ (b.getD i 0).toNat)) / 2 ^^^ 2197175160 := bst_1 h
        refine W_region ?_
        refine wp rfl hC (oc_move hC (.tmp rfl) rfl rfl) ?_
        refine wp rfl hC (ox_cmp hC rfl (.tmp rfl) .cint (r := true) (by rw [h]; rfl) rfl rfl) ?_
        refine WL_nil ?_
        refine W_cond rfl (by decide) (fun _ => ?_) (fun hc => by cases hc)
        refine W_region ?_
        refine wp rfl hC (oc_move hC (.tmp rfl) rfl rfl) ?_
        refine wp rfl hC (oc_bin hC rfl (.tmp rfl) .cint (r := (((bsts j ((crcL 4294967295 (b.take i)) ^^^ (b.getD i 0).toNat)) / 2 ^^^ 2197175160 : Nat) : Int)) (xor_u32 (y := 2197175160) (by omega) (by decide)) rfl rfl) ?_
        refine wp rfl hC (oc_assign hC (.tmp rfl) rfl rfl) ?_
        refine WL_nil ?_
        refine W_region ?_
        refine wp rfl hC (oc_move hC (.tmp rfl) rfl rfl) ?_
        refine wp rfl hC (oc_bin hC rfl (.tmp rfl) .cint (by first | exact i64_add (by omega) | rfl) rfl rfl) ?_
        refine wp rfl hC (oc_assign hC (.tmp rfl) rfl rfl) ?_
        refine WL_nil ?_
        exact ⟨(j + 1), (by omega), (weak (fun k => k) (.cons rfl (by first | exact ren_agI | exact ren_vsI | exact ren_free _ _ (by first | exact inSL_I _ | simp)) (by first | exact inSL_I _ | simp) (.cons rfl (congrArg (AV.i _) (by rw [bsts_succ, hbs])) trivial (.cons rfl (by first | rfl | exact congrArg (AV.i _) (by omega) | exact congrArg (AV.i _) (by simp; omega)) trivial (.cons rfl (by first | rfl | exact congrArg (AV.i _) (by omega) | exact congrArg (AV.i _) (by simp; omega)) trivial .nil)))) .nil rfl rfl rfl), (by omega)⟩
    ·
      replace hc := lss_f hc
      have hj : j = 8 := by omega
      refine W_exit ?_
      refine W_region ?_
      refine wp rfl hC (oc_move hC (.tmp rfl) rfl rfl) ?_
      refine wp rfl hC (oc_bin hC rfl (.tmp rfl) .cint (by first | exact i64_add (by omega) | rfl) rfl rfl) ?_
      refine wp rfl hC (oc_assign hC (.tmp rfl) rfl rfl) ?_
      refine WL_nil ?_
      exact ⟨(i + 1), (by omega), (weak (fun k => k) (.cons rfl (by first | exact ren_agI | exact ren_vsI | exact ren_free _ _ (by first | exact inSL_I _ | simp)) (by first | exact inSL_I _ | simp) (.cons rfl (congrArg (AV.i _) (by rw [← crc_take (by omega), hj]; unfold crcB; rfl)) trivial (.cons rfl (by first | rfl | exact congrArg (AV.i _) (by omega) | exact congrArg (AV.i _) (by simp; omega)) trivial .nil))) .nil rfl rfl rfl), (by omega)⟩
  ·
    replace hc := lss_f hc
    obtain rfl : i = n := by omega
    rw [List.take_of_length_le (show b.length ≤ i by omega)]
    refine W_exit ?_
    refine wsr ?_
    refine wp rfl hC (oc_move hC (.tmp rfl) rfl rfl) ?_
    refine wp rfl hC (oc_bin hC rfl (.tmp rfl) .cint (r := ((crcS b : Nat) : Int)) ((xor_u32 (y := 4294967295) (crcL_lt hb (by decide)) (by decide)).trans (by rw [hcs])) rfl rfl) ?_
    refine wp rfl hC (oc_assign hC (.tmp rfl) rfl rfl) ?_
    refine WL_nil ?_
    refine W_ret ?_
    exact fin0 (.cons (.tmp rfl) .nil) rfl trivial
set_option maxRecDepth 20000 in
set_option maxHeartbeats 4000000 in
theorem equal_c (na nb : Nat) (a b : List Int) (ha : a.length = na) (hb : b.length = nb) (hl : na ≤ 1099511627776) : FnC Tryd.prog 38 [] [.vs na (I .u8 a), .vs nb (I .u8 b)] [] [] (.b (decide (a = b))) := by
  refine FnC.introR (N0 := 0) (T := 26) (E := [(0, .vs na (I .u8 a)), (1, .vs nb (I .u8 b))]) Tryd.func38 rfl (by decide) mix rfl rfl rfl (by simp) rfl ⟨(by first | exact inSL_I _ | trivial | simp), (by first | exact inSL_I _ | trivial | simp), trivial⟩ (by simp) (by intro S _ _ h; simp) (fun F n0 X w ρ hC hro => ?_)
  refine wsr ?_
  refine wp rfl hC (oc_assign hC .cbool rfl rfl) ?_
  refine WL_nil ?_
  refine W_seq ?_
  refine W_seq ?_
  rcases Nat.lt_trichotomy na nb with h | h | h
  ·
    refine W_region ?_
    refine wp rfl hC (oc_move hC (.tmp rfl) rfl rfl) ?_
    refine wp rfl hC (ox_len hC (.tmp rfl) (by first | exact .row rfl | exact .vs | exact .sl rfl | exact .nils) Tryd.underlying22 rfl rfl rfl) ?_
    refine wp rfl hC (oc_move hC (.tmp rfl) rfl rfl) ?_
    refine wp rfl hC (ox_len hC (.tmp rfl) (by first | exact .row rfl | exact .vs | exact .sl rfl | exact .nils) Tryd.underlying22 rfl rfl rfl) ?_
    refine wp rfl hC (ox_cmp hC rfl (.tmp rfl) (.tmp rfl) (r := true) (by simp only [cmpI]; exact decide_eq_true (by omega)) rfl rfl) ?_
    refine WL_nil ?_
    refine W_cond rfl (by decide) (fun _ => ?_) (fun hc => by cases hc)
    refine wsr ?_
    refine wp rfl hC (oc_assign hC .cbool rfl rfl) ?_
    refine WL_nil ?_
    refine W_ret ?_
    exact fin0 (.cons (.tmp rfl) .nil) (congrArg AV.b (decide_eq_false (fun e => by rw [e] at ha; omega)).symm) trivial
  ·
    subst h
    refine W_region ?_
    refine wp rfl hC (oc_move hC (.tmp rfl) rfl rfl) ?_
    refine wp rfl hC (ox_len hC (.tmp rfl) (by first | exact .row rfl | exact .vs | exact .sl rfl | exact .nils) Tryd.underlying22 rfl rfl rfl) ?_
    refine wp rfl hC (oc_move hC (.tmp rfl) rfl rfl) ?_
    refine wp rfl hC (ox_len hC (.tmp rfl) (by first | exact .row rfl | exact .vs | exact .sl rfl | exact .nils) Tryd.underlying22 rfl rfl rfl) ?_
    refine wp rfl hC (ox_cmp hC rfl (.tmp rfl) (.tmp rfl) (r := false) (by simp only [cmpI]; exact decide_eq_false (by omega)) rfl rfl) ?_
    refine WL_nil ?_
    refine W_cond rfl (by decide) (fun hc => by cases hc) (fun _ => ?_)
    refine W_skip ?_
    refine W_seq ?_
    refine wsr ?_
    refine wp rfl hC (oc_move hC (.tmp rfl) rfl rfl) ?_
    refine wp rfl hC (ox_len hC (.tmp rfl) (by first | exact .row rfl | exact .vs | exact .sl rfl | exact .nils) Tryd.underlying22 rfl rfl rfl) ?_
    refine wp rfl hC (oc_move hC .cint rfl rfl) ?_
    refine WL_nil ?_
    refine W_blk ?_
    refine W_loopW (fun (ζ : Nat) => ⟨0, [(0, .vs na (I .u8 a)), (1, .vs na (I .u8 b)), (12, .i .i64 na), (13, .i .i64 ζ)], []⟩) (fun ζ => ζ ≤ na ∧ a.take ζ = b.take ζ) (fun ζ => na - ζ) (0) ⟨Nat.zero_le _, rfl⟩ (weak (fun k => k) (.cons rfl (by first | exact ren_agI | exact ren_vsI | exact ren_free _ _ (by first | exact inSL_I _ | simp)) (by first | exact inSL_I _ | simp) (.cons rfl (by first | exact ren_agI | exact ren_vsI | exact ren_free _ _ (by first | exact inSL_I _ | simp)) (by first | exact inSL_I _ | simp) (.cons rfl (by first | rfl | exact congrArg (AV.i _) (by omega) | exact congrArg (AV.i _) (by simp; omega)) trivial (.cons rfl rfl trivial .nil)))) .nil rfl rfl rfl) ?_
    intro i hR
    replace hR : i ≤ na ∧ a.take i = b.take i := hR
    first | show W _ _ _ ⟨0, [(0, .vs na (I .u8 a)), (1, .vs na (I .u8 b)), (12, .i .i64 na), (13, .i .i64 i)], []⟩ | skip
    refine wsr ?_
    refine wp rfl hC (ox_cmp hC rfl (.tmp rfl) (.tmp rfl) rfl rfl rfl) ?_
    refine WL_nil ?_
    refine W_seq ?_
    refine W_cond rfl (by decide) (fun hc => ?_) (fun hc => ?_)
    ·
      replace hc := lss_t hc
      
      refine W_skip ?_
      refine W_seq ?_
      refine W_blk ?_
      refine wsr ?_
      refine wp rfl hC (oc_move hC (.tmp rfl) rfl rfl) ?_
      refine wp rfl hC (oc_assign hC (.tmp rfl) rfl rfl) ?_
      refine WL_nil ?_
      refine W_seq ?_
      rcases (show a.getD i 0 = b.getD i 0 ∨ a.getD i 0 ≠ b.getD i 0 by omega) with h | h
      ·
        have heq : a[i]'(by omega) = b[i]'(by omega) := by
          rw [List.getD_eq_getElem?_getD, List.getD_eq_getElem?_getD, List.getElem?_eq_getElem (by omega), List.getElem?_eq_getElem (by omega)] at h
          exact h
        refine W_drawD hC ?_
        refine WD_cons (.plain rfl (oc_move hC (.tmp rfl) rfl rfl)) ?_
        refine WD_cons (.plain rfl (oc_move hC (.tmp rfl) rfl rfl)) ?_
        refine WD_cons (.plain rfl (ox_indexS hC (j := i) (.tmp rfl) (.tmp rfl) idx_22 (by first | rfl | omega | (simp; omega)) (by first | exact Nat.mul_one _ | rfl) (by first | exact .row rfl | exact .sl (Nat.zero_add _) | exact .sl rfl | exact .vs (by first | omega | (simp <;> fail) | (simp; omega))) (by first | omega | (simp <;> fail) | (simp; omega)) rfl rfl)) ?_
        refine WD_cons (.plain rfl (oc_load hC (.tmp rfl) (by first | exact .p rfl | exact .rp) shp_5 (by exact (unit_I (by first | omega | (simp <;> fail) | (simp; omega)))) rfl rfl)) ?_
        refine WD_cons (.plain rfl (oc_move hC (.tmp rfl) rfl rfl)) ?_
        refine WD_cons (.plain rfl (oc_move hC (.tmp rfl) rfl rfl)) ?_
        refine WD_cons (.plain rfl (ox_indexS hC (j := i) (.tmp rfl) (.tmp rfl) idx_22 (by first | rfl | omega | (simp; omega)) (by first | exact Nat.mul_one _ | rfl) (by first | exact .row rfl | exact .sl (Nat.zero_add _) | exact .sl rfl | exact .vs (by first | omega | (simp <;> fail) | (simp; omega))) (by first | omega | (simp <;> fail) | (simp; omega)) rfl rfl)) ?_
        refine WD_cons (.plain rfl (oc_load hC (.tmp rfl) (by first | exact .p rfl | exact .rp) shp_5 (by exact (unit_I (by first | omega | (simp <;> fail) | (simp; omega)))) rfl rfl)) ?_
        refine WD_cons (.plain rfl (ox_cmp hC rfl (.tmp rfl) (.tmp rfl) (r := false) (by simp only [cmpI]; exact decide_eq_false (fun hne => hne h)) rfl rfl)) ?_
        refine WD_nil (by kernel_rfl) ?_
        refine W_cond rfl (by decide) (fun hc => by cases hc) (fun _ => ?_)
        refine W_skip ?_
        refine W_region ?_
        refine wp rfl hC (oc_bin hC rfl (.tmp rfl) .cint (by first | exact i64_add (by omega) | rfl) rfl rfl) ?_
        refine wp rfl hC (oc_move hC (.tmp rfl) rfl rfl) ?_
        refine WL_nil ?_
        exact ⟨(i + 1), ⟨by omega, by rw [List.take_succ_eq_append_getElem (by omega), List.take_succ_eq_append_getElem (by omega), hR.2, heq]⟩, (weak (fun k => k) (.cons rfl (by first | exact ren_agI | exact ren_vsI | exact ren_free _ _ (by first | exact inSL_I _ | simp)) (by first | exact inSL_I _ | simp) (.cons rfl (by first | exact ren_agI | exact ren_vsI | exact ren_free _ _ (by first | exact inSL_I _ | simp)) (by first | exact inSL_I _ | simp) (.cons rfl (by first | rfl | exact congrArg (AV.i _) (by omega) | exact congrArg (AV.i _) (by simp; omega)) trivial (.cons rfl (by first | rfl | exact congrArg (AV.i _) (by omega) | exact congrArg (AV.i _) (by simp; omega)) trivial .nil)))) .nil rfl rfl rfl), (by omega)⟩
      ·
        refine W_drawD hC ?_
        refine WD_cons (.plain rfl (oc_move hC (.tmp rfl) rfl rfl)) ?_
        refine WD_cons (.plain rfl (oc_move hC (.tmp rfl) rfl rfl)) ?_
        refine WD_cons (.plain rfl (ox_indexS hC (j := i) (.tmp rfl) (.tmp rfl) idx_22 (by first | rfl | omega | (simp; omega)) (by first | exact Nat.mul_one _ | rfl) (by first | exact .row rfl | exact .sl (Nat.zero_add _) | exact .sl rfl | exact .vs (by first | omega | (simp <;> fail) | (simp; omega))) (by first | omega | (simp <;> fail) | (simp; omega)) rfl rfl)) ?_
        refine WD_cons (.plain rfl (oc_load hC (.tmp rfl) (by first | exact .p rfl | exact .rp) shp_5 (by exact (unit_I (by first | omega | (simp <;> fail) | (simp; omega)))) rfl rfl)) ?_
        refine WD_cons (.plain rfl (oc_move hC (.tmp rfl) rfl rfl)) ?_
        refine WD_cons (.plain rfl (oc_move hC (.tmp rfl) rfl rfl)) ?_
        refine WD_cons (.plain rfl (ox_indexS hC (j := i) (.tmp rfl) (.tmp rfl) idx_22 (by first | rfl | omega | (simp; omega)) (by first | exact Nat.mul_one _ | rfl) (by first | exact .row rfl | exact .sl (Nat.zero_add _) | exact .sl rfl | exact .vs (by first | omega | (simp <;> fail) | (simp; omega))) (by first | omega | (simp <;> fail) | (simp; omega)) rfl rfl)) ?_
        refine WD_cons (.plain rfl (oc_load hC (.tmp rfl) (by first | exact .p rfl | exact .rp) shp_5 (by exact (unit_I (by first | omega | (simp <;> fail) | (simp; omega)))) rfl rfl)) ?_
        refine WD_cons (.plain rfl (ox_cmp hC rfl (.tmp rfl) (.tmp rfl) (r := true) (by simp only [cmpI]; exact decide_eq_true h) rfl rfl)) ?_
        refine WD_nil (by kernel_rfl) ?_
        refine W_cond rfl (by decide) (fun _ => ?_) (fun hc => by cases hc)
        refine wsr ?_
        refine wp rfl hC (oc_assign hC .cbool rfl rfl) ?_
        refine WL_nil ?_
        refine W_ret ?_
        exact fin0 (.cons (.tmp rfl) .nil) (congrArg AV.b (decide_eq_false (fun e => h (by rw [e]))).symm) trivial
    ·
      replace hc := lss_f hc
      obtain rfl : i = na := by omega
      have hab : a = b := by have := hR.2; rwa [List.take_of_length_le (by omega), List.take_of_length_le (by omega)] at this
      refine W_exit ?_
      refine wsr ?_
      refine wp rfl hC (oc_assign hC .cbool rfl rfl) ?_
      refine WL_nil ?_
      refine W_ret ?_
      exact fin0 (.cons (.tmp rfl) .nil) (congrArg AV.b (decide_eq_true hab).symm) trivial
  ·
    refine W_region ?_
    refine wp rfl hC (oc_move hC (.tmp rfl) rfl rfl) ?_
    refine wp rfl hC (ox_len hC (.tmp rfl) (by first | exact .row rfl | exact .vs | exact .sl rfl | exact .nils) Tryd.underlying22 rfl rfl rfl) ?_
    refine wp rfl hC (oc_move hC (.tmp rfl) rfl rfl) ?_
    refine wp rfl hC (ox_len hC (.tmp rfl) (by first | exact .row rfl | exact .vs | exact .sl rfl | exact .nils) Tryd.underlying22 rfl rfl rfl) ?_
    refine wp rfl hC (ox_cmp hC rfl (.tmp rfl) (.tmp rfl) (r := true) (by simp only [cmpI]; exact decide_eq_true (by omega)) rfl rfl) ?_
    refine WL_nil ?_
    refine W_cond rfl (by decide) (fun _ => ?_) (fun hc => by cases hc)
    refine wsr ?_
    refine wp rfl hC (oc_assign hC .cbool rfl rfl) ?_
    refine WL_nil ?_
    refine W_ret ?_
    exact fin0 (.cons (.tmp rfl) .nil) (congrArg AV.b (decide_eq_false (fun e => by rw [e] at ha; omega)).symm) trivial
set_option maxRecDepth 20000 in
set_option maxHeartbeats 4000000 in
theorem bytesxerr_c (b b1 : List Int) (e e1 : Int) (hb8 : B8 b) (hl : b.length ≤ 1099511627776) (most v : Int) (hN : NumS b e most e1 b1 v) (he : e1 ≠ 0) : FnC Tryd.prog 32 [] [.p 0 0, .i .i64 most] [(0, .blk 73 [.vs b.length (I .u8 b), .i .i64 e])] [(0, .blk 73 [.vs b1.length (I .u8 b1), .i .i64 e1])] (.vs 0 (I .u8 [])) := by
  have h18 := hN.b8 hb8
  have hln := hN.len
  refine FnC.introR (N0 := 1) (T := 10) (E := [(0, .p 0 0), (1, .i .i64 most)]) Tryd.func32 rfl (by decide) mix rfl rfl rfl (by simp) rfl ⟨(by first | exact inSL_I _ | trivial | simp), (by first | exact inSL_I _ | trivial | simp), trivial⟩ (by intro k b hm; simp only [List.mem_cons, Prod.mk.injEq, List.not_mem_nil, or_false] at hm; rcases hm with ⟨rfl, rfl⟩ <;> exact ⟨by decide, by first | exact inSL_I _ | simp⟩) (by
        intro S ha hr hw
        have s0 : S 0 := (hr 0 _ List.mem_cons_self).1
        refine ⟨by first | exact inSL_I _ | simp [s0], fun k b hm => ?_⟩
        simp only [List.mem_cons, Prod.mk.injEq, List.not_mem_nil, or_false] at hm
        rcases hm with ⟨rfl, rfl⟩
        · exact ⟨s0, by first | exact inSL_I _ | simp [s0]⟩) (fun F n0 X w ρ hC hro => ?_)
  refine wsr ?_
  refine wp rfl hC (oc_assign hC .cnils rfl rfl) ?_
  refine WL_nil ?_
  refine wsr ?_
  refine wp rfl hC (oc_move hC (.tmp rfl) rfl rfl) ?_
  refine wp rfl hC (oc_move hC (.tmp rfl) rfl rfl) ?_
  refine wp rfl hC (oc_move hC (.tmp rfl) rfl rfl) ?_
  refine wp rfl hC (oc_callG (τ := fun k => bif Nat.beq k 0 then 0 else k) (N' := 1) hC .func (.cons (.tmp rfl) (.cons (.tmp rfl) .nil)) (.own (by first | rfl | simp) (.v1 (.free (by first | exact inSL_I _ | simp)) .end)) (num_u b b1 e e1 hb8 hl most v hN) glob_nil (mr_cons (by first | exact ren_blkI | exact ren_rowI | exact Blk.ren_free (by simp) _ | rfl) rfl mr_nil) (mr_cons (by first | exact ren_blkI | exact ren_rowI | exact Blk.ren_free (by simp) _ | rfl) rfl mr_nil) rfl (rd_cons rfl rd_nil) rfl rfl rfl rfl (by first | exact .inl rfl | exact .inr ⟨by simp, (nv_cons (by first | exact novsL_I _ | simp) nv_nil)⟩) rfl (dst_ok rfl rfl) (fun t => setE_cons _ _ _ _)) ?_
  refine wp rfl hC (oc_callG (τ := fun k => bif Nat.beq k 0 then 0 else k) (N' := 1) hC .func (.cons (.tmp rfl) (.cons (.tmp rfl) .nil)) (.own (by first | rfl | simp) (.v1 (.free (by first | exact inSL_I _ | simp)) .end)) (takeerr_c b1.length b1 e1 rfl h18 (by omega) v he) glob_nil (mr_cons (by first | exact ren_blkI | exact ren_rowI | exact Blk.ren_free (by simp) _ | rfl) rfl mr_nil) (mr_cons (by first | exact ren_blkI | exact ren_rowI | exact Blk.ren_free (by simp) _ | rfl) rfl mr_nil) rfl (rd_cons rfl rd_nil) rfl rfl rfl rfl (by first | exact .inl rfl | exact .inr ⟨by simp, (nv_cons (by first | exact novsL_I _ | simp) nv_nil)⟩) rfl (dst_ok rfl rfl) (fun t => setE_cons _ _ _ _)) ?_
  refine WL_weak (weak_nilv (t := 9) rfl) ?_
  refine wp rfl hC (oc_assign hC (.tmp rfl) rfl rfl) ?_
  refine WL_nil ?_
  refine W_ret ?_
  exact finK (fun k => k) (.cons (.tmp rfl) .nil) rfl (wr_cons rfl (Blk.ren_free (by simp) _) wr_nil) rfl rfl
set_option maxRecDepth 20000 in
set_option maxHeartbeats 4000000 in
theorem bytesxshort_c (b b1 : List Int) (e e1 : Int) (hb8 : B8 b) (hl : b.length ≤ 1099511627776) (most v : Int) (hN : NumS b e most e1 b1 v) (he : e1 = 0) (k : Nat) (hk : v = k) (hs : b1.length < k) : FnC Tryd.prog 32 [] [.p 0 0, .i .i64 most] [(0, .blk 73 [.vs b.length (I .u8 b), .i .i64 e])] [(0, .blk 73 [.vs b1.length (I .u8 b1), .i .i64 2])] (.vs 0 (I .u8 [])) := by
  have h18 := hN.b8 hb8
  have hln := hN.len
  refine FnC.introR (N0 := 1) (T := 10) (E := [(0, .p 0 0), (1, .i .i64 most)]) Tryd.func32 rfl (by decide) mix rfl rfl rfl (by simp) rfl ⟨(by first | exact inSL_I _ | trivial | simp), (by first | exact inSL_I _ | trivial | simp), trivial⟩ (by intro k b hm; simp only [List.mem_cons, Prod.mk.injEq, List.not_mem_nil, or_false] at hm; rcases hm with ⟨rfl, rfl⟩ <;> exact ⟨by decide, by first | exact inSL_I _ | simp⟩) (by
        intro S ha hr hw
        have s0 : S 0 := (hr 0 _ List.mem_cons_self).1
        refine ⟨by first | exact inSL_I _ | simp [s0], fun k b hm => ?_⟩
        simp only [List.mem_cons, Prod.mk.injEq, List.not_mem_nil, or_false] at hm
        rcases hm with ⟨rfl, rfl⟩
        · exact ⟨s0, by first | exact inSL_I _ | simp [s0]⟩) (fun F n0 X w ρ hC hro => ?_)
  refine wsr ?_
  refine wp rfl hC (oc_assign hC .cnils rfl rfl) ?_
  refine WL_nil ?_
  refine wsr ?_
  refine wp rfl hC (oc_move hC (.tmp rfl) rfl rfl) ?_
  refine wp rfl hC (oc_move hC (.tmp rfl) rfl rfl) ?_
  refine wp rfl hC (oc_move hC (.tmp rfl) rfl rfl) ?_
  refine wp rfl hC (oc_callG (τ := fun k => bif Nat.beq k 0 then 0 else k) (N' := 1) hC .func (.cons (.tmp rfl) (.cons (.tmp rfl) .nil)) (.own (by first | rfl | simp) (.v1 (.free (by first | exact inSL_I _ | simp)) .end)) (num_u b b1 e e1 hb8 hl most v hN) glob_nil (mr_cons (by first | exact ren_blkI | exact ren_rowI | exact Blk.ren_free (by simp) _ | rfl) rfl mr_nil) (mr_cons (by first | exact ren_blkI | exact ren_rowI | exact Blk.ren_free (by simp) _ | rfl) rfl mr_nil) rfl (rd_cons rfl rd_nil) rfl rfl rfl rfl (by first | exact .inl rfl | exact .inr ⟨by simp, (nv_cons (by first | exact novsL_I _ | simp) nv_nil)⟩) rfl (dst_ok rfl rfl) (fun t => setE_cons _ _ _ _)) ?_
  rw [hk]
  refine wp rfl hC (oc_callG (τ := fun k => bif Nat.beq k 0 then 0 else k) (N' := 1) hC .func (.cons (.tmp rfl) (.cons (.tmp rfl) .nil)) (.own (by first | rfl | simp) (.v1 (.free (by first | exact inSL_I _ | simp)) .end)) (takeshort_c b1.length b1 e1 rfl h18 (by omega) k he hs) glob_nil (mr_cons (by first | exact ren_blkI | exact ren_rowI | exact Blk.ren_free (by simp) _ | rfl) rfl mr_nil) (mr_cons (by first | exact ren_blkI | exact ren_rowI | exact Blk.ren_free (by simp) _ | rfl) rfl mr_nil) rfl (rd_cons rfl rd_nil) rfl rfl rfl rfl (by first | exact .inl rfl | exact .inr ⟨by simp, (nv_cons (by first | exact novsL_I _ | simp) nv_nil)⟩) rfl (dst_ok rfl rfl) (fun t => setE_cons _ _ _ _)) ?_
  refine WL_weak (weak_nilv (t := 9) rfl) ?_
  refine wp rfl hC (oc_assign hC (.tmp rfl) rfl rfl) ?_
  refine WL_nil ?_
  refine W_ret ?_
  exact finK (fun k => k) (.cons (.tmp rfl) .nil) rfl (wr_cons rfl (Blk.ren_free (by simp) _) wr_nil) rfl rfl
set_option maxRecDepth 20000 in
set_option maxHeartbeats 4000000 in
theorem bytesu_c (b b1 : List Int) (e e1 : Int) (hb8 : B8 b) (hl : b.length ≤ 1099511627776) (most v : Int) (hN : NumS b e most e1 b1 v) (he : e1 = 0) (k : Nat) (hk : v = k) (hs : k ≤ b1.length) : FnC Tryd.prog 32 [] [.p 0 0, .i .i64 most] [(0, .blk 73 [.vs b.length (I .u8 b), .i .i64 e])] [(0, .blk 73 [.vs (b1.length - k) (I .u8 (b1.drop k)), .i .i64 e1])] (.vs k (I .u8 (b1.take k))) := by
  have h18 := hN.b8 hb8
  have hln := hN.len
  refine FnC.introR (N0 := 1) (T := 10) (E := [(0, .p 0 0), (1, .i .i64 most)]) Tryd.func32 rfl (by decide) mix rfl rfl rfl (by simp) rfl ⟨(by first | exact inSL_I _ | trivial | simp), (by first | exact inSL_I _ | trivial | simp), trivial⟩ (by intro k b hm; simp only [List.mem_cons, Prod.mk.injEq, List.not_mem_nil, or_false] at hm; rcases hm with ⟨rfl, rfl⟩ <;> exact ⟨by decide, by first | exact inSL_I _ | simp⟩) (by
        intro S ha hr hw
        have s0 : S 0 := (hr 0 _ List.mem_cons_self).1
        refine ⟨by first | exact inSL_I _ | simp [s0], fun k b hm => ?_⟩
        simp only [List.mem_cons, Prod.mk.injEq, List.not_mem_nil, or_false] at hm
        rcases hm with ⟨rfl, rfl⟩
        · exact ⟨s0, by first | exact inSL_I _ | simp [s0]⟩) (fun F n0 X w ρ hC hro => ?_)
  refine wsr ?_
  refine wp rfl hC (oc_assign hC .cnils rfl rfl) ?_
  refine WL_nil ?_
  refine wsr ?_
  refine wp rfl hC (oc_move hC (.tmp rfl) rfl rfl) ?_
  refine wp rfl hC (oc_move hC (.tmp rfl) rfl rfl) ?_
  refine wp rfl hC (oc_move hC (.tmp rfl) rfl rfl) ?_
  refine wp rfl hC (oc_callG (τ := fun k => bif Nat.beq k 0 then 0 else k) (N' := 1) hC .func (.cons (.tmp rfl) (.cons (.tmp rfl) .nil)) (.own (by first | rfl | simp) (.v1 (.free (by first | exact inSL_I _ | simp)) .end)) (num_u b b1 e e1 hb8 hl most v hN) glob_nil (mr_cons (by first | exact ren_blkI | exact ren_rowI | exact Blk.ren_free (by simp) _ | rfl) rfl mr_nil) (mr_cons (by first | exact ren_blkI | exact ren_rowI | exact Blk.ren_free (by simp) _ | rfl) rfl mr_nil) rfl (rd_cons rfl rd_nil) rfl rfl rfl rfl (by first | exact .inl rfl | exact .inr ⟨by simp, (nv_cons (by first | exact novsL_I _ | simp) nv_nil)⟩) rfl (dst_ok rfl rfl) (fun t => setE_cons _ _ _ _)) ?_
  rw [hk]
  refine wp rfl hC (oc_callG (τ := fun k => bif Nat.beq k 0 then 0 else k) (N' := 1) hC .func (.cons (.tmp rfl) (.cons (.tmp rfl) .nil)) (.own (by first | rfl | simp) (.v1 (.free (by first | exact inSL_I _ | simp)) .end)) (take_c b1.length b1 e1 rfl h18 (by omega) k he hs) glob_nil (mr_cons (by first | exact ren_blkI | exact ren_rowI | exact Blk.ren_free (by simp) _ | rfl) rfl mr_nil) (mr_cons (by first | exact ren_blkI | exact ren_rowI | exact Blk.ren_free (by simp) _ | rfl) rfl mr_nil) ren_vsI (rd_cons rfl rd_nil) rfl rfl rfl rfl (by first | exact .inl rfl | exact .inr ⟨by simp, (nv_cons (by first | exact novsL_I _ | simp) nv_nil)⟩) rfl (dst_ok rfl rfl) (fun t => setE_cons _ _ _ _)) ?_
  refine wp rfl hC (oc_assign hC (.tmp rfl) rfl rfl) ?_
  refine WL_nil ?_
  refine W_ret ?_
  exact finK (fun k => k) (.cons (.tmp rfl) .nil) ren_vsI (wr_cons rfl (Blk.ren_free (by simp) _) wr_nil) rfl rfl
theorem bytes_x (b c x : List Int) (e most e1 : Int) (hb8 : B8 b) (hl : b.length ≤ 1099511627776) (hB : BytesS b e most e1 c x) : FnC Tryd.prog 32 [] [.p 0 0, .i .i64 most] [(0, .blk 73 [.vs b.length (I .u8 b), .i .i64 e])] [(0, .blk 73 [.vs c.length (I .u8 c), .i .i64 e1])] (.vs x.length (I .u8 x)) := by
  cases hB with
  | err h he => exact bytesxerr_c _ _ e _ hb8 hl most _ h he
  | short h k hk hs => exact bytesxshort_c _ _ e _ hb8 hl most _ h rfl k hk hs
  | ok h k hk hs =>
    rw [List.length_take, Nat.min_eq_left hs, List.length_drop]
    exact bytesu_c _ _ e _ hb8 hl most _ h rfl k hk hs
set_option maxRecDepth 20000 in
set_option maxHeartbeats 4000000 in
theorem cnt_t (k : Int) (h : 0 ≤ k ∧ k ≤ 1099511627775) : FnC Tryd.prog 20 [] [.i .i64 k] [] [] (.b true) := by
  refine FnC.introR (N0 := 0) (T := 9) (E := [(0, .i .i64 k)]) Tryd.func20 rfl (by decide) mix rfl rfl rfl (by simp) rfl ⟨(by first | exact inSL_I _ | trivial | simp), trivial⟩ (by simp) (by intro S _ _ h; simp) (fun F n0 X w ρ hC hro => ?_)
  refine wsr ?_
  refine wp rfl hC (oc_assign hC .cbool rfl rfl) ?_
  refine WL_nil ?_
  refine wsr ?_
  refine wp rfl hC (oc_move hC (.tmp rfl) rfl rfl) ?_
  refine wp rfl hC (ox_cmp hC rfl (.tmp rfl) .cint (r := true) (by simp only [cmpI]; exact decide_eq_true (by omega)) rfl rfl) ?_
  refine wp rfl hC (oc_move hC (.tmp rfl) rfl rfl) ?_
  refine WL_cons hC.fn (.yes rfl rfl (by decide) rfl (oc_move hC (.tmp rfl) rfl rfl)) ?_
  refine WL_cons hC.fn (.yes rfl rfl (by decide) rfl (ox_cmp hC rfl (.tmp rfl) .cint (r := true) (by simp only [cmpI]; exact decide_eq_true (by omega)) rfl rfl)) ?_
  refine wp rfl hC (ox_pick hC (.tmp rfl) (.tmp rfl) .cbool (by first | exact pick_t | exact pick_f | rfl) rfl rfl) ?_
  refine wp rfl hC (oc_assign hC (.tmp rfl) rfl rfl) ?_
  refine WL_nil ?_
  refine W_ret ?_
  exact fin0 (.cons (.tmp rfl) .nil) rfl trivial
set_option maxRecDepth 20000 in
set_option maxHeartbeats 4000000 in
theorem cnt_f (k : Int) (h : k < 0 ∨ (0 ≤ k ∧ 1099511627775 < k)) : FnC Tryd.prog 20 [] [.i .i64 k] [] [] (.b false) := by
  refine FnC.introR (N0 := 0) (T := 9) (E := [(0, .i .i64 k)]) Tryd.func20 rfl (by decide) mix rfl rfl rfl (by simp) rfl ⟨(by first | exact inSL_I _ | trivial | simp), trivial⟩ (by simp) (by intro S _ _ h; simp) (fun F n0 X w ρ hC hro => ?_)
  refine wsr ?_
  refine wp rfl hC (oc_assign hC .cbool rfl rfl) ?_
  refine WL_nil ?_
  refine W_seq ?_
  rcases h with h | h
  ·
    refine W_region ?_
    refine wp rfl hC (oc_move hC (.tmp rfl) rfl rfl) ?_
    refine wp rfl hC (ox_cmp hC rfl (.tmp rfl) .cint (r := false) (by simp only [cmpI]; exact decide_eq_false (by omega)) rfl rfl) ?_
    refine wp rfl hC (oc_move hC (.tmp rfl) rfl rfl) ?_
    refine WL_cons hC.fn (.no (s1 := ⟨_, (6, .tu []) :: _, _⟩) rfl rfl (by decide) rfl (by decide) (fun t ht => by cases ht; exact ⟨blt_lt rfl, blt_lt rfl⟩) (fun t => setE_cons _ _ _ _) rfl rfl) ?_
    refine WL_cons hC.fn (.no (s1 := ⟨_, (7, .tu []) :: _, _⟩) rfl rfl (by decide) rfl (by decide) (fun t ht => by cases ht; exact ⟨blt_lt rfl, blt_lt rfl⟩) (fun t => setE_cons _ _ _ _) rfl rfl) ?_
    refine wp rfl hC (ox_pick hC (.tmp rfl) (.tmp rfl) .cbool (by first | exact pick_t | exact pick_f | rfl) rfl rfl) ?_
    refine wp rfl hC (oc_assign hC (.tmp rfl) rfl rfl) ?_
    refine WL_nil ?_
    refine W_ret ?_
    exact fin0 (.cons (.tmp rfl) .nil) rfl trivial
  ·
    refine W_region ?_
    refine wp rfl hC (oc_move hC (.tmp rfl) rfl rfl) ?_
    refine wp rfl hC (ox_cmp hC rfl (.tmp rfl) .cint (r := true) (by simp only [cmpI]; exact decide_eq_true (by omega)) rfl rfl) ?_
    refine wp rfl hC (oc_move hC (.tmp rfl) rfl rfl) ?_
    refine WL_cons hC.fn (.yes rfl rfl (by decide) rfl (oc_move hC (.tmp rfl) rfl rfl)) ?_
    refine WL_cons hC.fn (.yes rfl rfl (by decide) rfl (ox_cmp hC rfl (.tmp rfl) .cint (r := false) (by simp only [cmpI]; exact decide_eq_false (by omega)) rfl rfl)) ?_
    refine wp rfl hC (ox_pick hC (.tmp rfl) (.tmp rfl) .cbool (by first | exact pick_t | exact pick_f | rfl) rfl rfl) ?_
    refine wp rfl hC (oc_assign hC (.tmp rfl) rfl rfl) ?_
    refine WL_nil ?_
    refine W_ret ?_
    exact fin0 (.cons (.tmp rfl) .nil) rfl trivial
set_option maxRecDepth 20000 in
set_option maxHeartbeats 4000000 in
theorem nright_t (id : List Int) (x v i : Int) (hid : id.length = 16) (bid : B8 id) (hR : RightN x v i) : FnC Tryd.prog 13 [] [.ag (noteX id x v i)] [] [] (.b true) := by
  obtain ⟨g1, g2, g3, g4, g5, g6⟩ := hR
  refine FnC.introR (N0 := 0) (T := 24) (E := [(0, .ag (noteX id x v i))]) Tryd.func13 rfl (by decide) mix rfl rfl rfl (by simp) rfl ⟨(by first | exact inSL_I _ | trivial | simp), trivial⟩ (by simp) (by intro S _ _ h; simp) (fun F n0 X w ρ hC hro => ?_)
  refine wsr ?_
  refine wp rfl hC (ox_box hC (.tmp rfl) flat_noteX (by first | exact cells_ag | rfl) rfl rfl) ?_
  refine wp rfl hC (oc_assign hC .cbool rfl rfl) ?_
  refine WL_nil ?_
  refine wsr ?_
  refine wp rfl hC (oc_assign hC .func rfl rfl) ?_
  refine WL_nil ?_
  refine wsr ?_
  refine wp rfl hC (oc_move hC (.tmp rfl) rfl rfl) ?_
  refine wp rfl hC (oc_field hC (.tmp rfl) fld_25_1 (by decide) (by first | exact .p (Nat.zero_add _) | exact .p rfl | exact .rp (by decide)) rfl rfl) ?_
  refine wp rfl hC (oc_load hC (.tmp rfl) (by first | exact .p rfl | exact .rp) shp_3 (by exact (unit_nx hid)) rfl rfl) ?_
  refine wp rfl hC (oc_callG (τ := fun k => k) (N' := 1) hC (.val rfl) (.cons (.tmp rfl) .nil) (.v1 (.free (by first | exact inSL_I _ | simp)) .end) (cnt_t x (by omega)) glob_nil mr_nil mr_nil (by first | rfl | exact ren_agI | exact ren_free _ _ (by first | exact inSL_I _ | simp)) rd_nil rfl rfl rfl rfl (by first | exact .inl rfl | exact .inr ⟨by simp, nv_nil⟩) rfl (dst_ok rfl rfl) (fun t => setE_cons _ _ _ _)) ?_
  refine wp rfl hC (oc_move hC (.tmp rfl) rfl rfl) ?_
  refine WL_cons hC.fn (.yes rfl rfl (by decide) rfl (oc_move hC (.tmp rfl) rfl rfl)) ?_
  refine WL_cons hC.fn (.yes rfl rfl (by decide) rfl (oc_field hC (.tmp rfl) fld_25_3 (by decide) (by first | exact .p (Nat.zero_add _) | exact .p rfl | exact .rp (by decide)) rfl rfl)) ?_
  refine WL_cons hC.fn (.yes rfl rfl (by decide) rfl (oc_load hC (.tmp rfl) (by first | exact .p rfl | exact .rp) shp_3 (by exact (unit_ni hid)) rfl rfl)) ?_
  refine WL_cons hC.fn (.yes rfl rfl (by decide) rfl (oc_callG (τ := fun k => k) (N' := 1) hC (.val rfl) (.cons (.tmp rfl) .nil) (.v1 (.free (by first | exact inSL_I _ | simp)) .end) (cnt_t i (by omega)) glob_nil mr_nil mr_nil (by first | rfl | exact ren_agI | exact ren_free _ _ (by first | exact inSL_I _ | simp)) rd_nil rfl rfl rfl rfl (by first | exact .inl rfl | exact .inr ⟨by simp, nv_nil⟩) rfl (dst_ok rfl rfl) (fun t => setE_cons _ _ _ _))) ?_
  refine wp rfl hC (ox_pick hC (.tmp rfl) (.tmp rfl) .cbool (by first | exact pick_t | exact pick_f | rfl) rfl rfl) ?_
  refine wp rfl hC (oc_move hC (.tmp rfl) rfl rfl) ?_
  refine WL_cons hC.fn (.yes rfl rfl (by decide) rfl (oc_field hC (.tmp rfl) fld_25_2 (by decide) (by first | exact .p (Nat.zero_add _) | exact .p rfl | exact .rp (by decide)) rfl rfl)) ?_
  refine WL_cons hC.fn (.yes rfl rfl (by decide) rfl (oc_load hC (.tmp rfl) (by first | exact .p rfl | exact .rp) shp_3 (by exact (unit_nv hid)) rfl rfl)) ?_
  refine WL_cons hC.fn (.yes rfl rfl (by decide) rfl (ox_cmp hC rfl (.tmp rfl) .cint (r := true) (by simp only [cmpI]; exact decide_eq_true (by omega)) rfl rfl)) ?_
  refine wp rfl hC (ox_pick hC (.tmp rfl) (.tmp rfl) .cbool (by first | exact pick_t | exact pick_f | rfl) rfl rfl) ?_
  refine wp rfl hC (oc_move hC (.tmp rfl) rfl rfl) ?_
  refine WL_cons hC.fn (.yes rfl rfl (by decide) rfl (oc_field hC (.tmp rfl) fld_25_2 (by decide) (by first | exact .p (Nat.zero_add _) | exact .p rfl | exact .rp (by decide)) rfl rfl)) ?_
  refine WL_cons hC.fn (.yes rfl rfl (by decide) rfl (oc_load hC (.tmp rfl) (by first | exact .p rfl | exact .rp) shp_3 (by exact (unit_nv hid)) rfl rfl)) ?_
  refine WL_cons hC.fn (.yes rfl rfl (by decide) rfl (ox_cmp hC rfl (.tmp rfl) .cint (r := true) (by simp only [cmpI]; exact decide_eq_true (by omega)) rfl rfl)) ?_
  refine wp rfl hC (ox_pick hC (.tmp rfl) (.tmp rfl) .cbool (by first | exact pick_t | exact pick_f | rfl) rfl rfl) ?_
  refine wp rfl hC (oc_assign hC (.tmp rfl) rfl rfl) ?_
  refine WL_nil ?_
  refine W_ret ?_
  exact fin0 (.cons (.tmp rfl) .nil) rfl trivial
set_option maxRecDepth 20000 in
set_option maxHeartbeats 4000000 in
theorem nright_f (id : List Int) (x v i : Int) (hid : id.length = 16) (bid : B8 id) (hR : ¬ RightN x v i) : FnC Tryd.prog 13 [] [.ag (noteX id x v i)] [] [] (.b false) := by
  have hc : (x < 0 ∨ (0 ≤ x ∧ 1099511627775 < x)) ∨ ((0 ≤ x ∧ x ≤ 1099511627775) ∧ (i < 0 ∨ (0 ≤ i ∧ 1099511627775 < i))) ∨ ((0 ≤ x ∧ x ≤ 1099511627775) ∧ (0 ≤ i ∧ i ≤ 1099511627775) ∧ v < 0) ∨ ((0 ≤ x ∧ x ≤ 1099511627775) ∧ (0 ≤ i ∧ i ≤ 1099511627775) ∧ 0 ≤ v ∧ 63 < v) := by unfold RightN at hR; omega
  refine FnC.introR (N0 := 0) (T := 24) (E := [(0, .ag (noteX id x v i))]) Tryd.func13 rfl (by decide) mix rfl rfl rfl (by simp) rfl ⟨(by first | exact inSL_I _ | trivial | simp), trivial⟩ (by simp) (by intro S _ _ h; simp) (fun F n0 X w ρ hC hro => ?_)
  refine wsr ?_
  refine wp rfl hC (ox_box hC (.tmp rfl) flat_noteX (by first | exact cells_ag | rfl) rfl rfl) ?_
  refine wp rfl hC (oc_assign hC .cbool rfl rfl) ?_
  refine WL_nil ?_
  refine wsr ?_
  refine wp rfl hC (oc_assign hC .func rfl rfl) ?_
  refine WL_nil ?_
  refine W_seq ?_
  rcases hc with h | h | h | h
  ·
    refine W_region ?_
    refine wp rfl hC (oc_move hC (.tmp rfl) rfl rfl) ?_
    refine wp rfl hC (oc_field hC (.tmp rfl) fld_25_1 (by decide) (by first | exact .p (Nat.zero_add _) | exact .p rfl | exact .rp (by decide)) rfl rfl) ?_
    refine wp rfl hC (oc_load hC (.tmp rfl) (by first | exact .p rfl | exact .rp) shp_3 (by exact (unit_nx hid)) rfl rfl) ?_
    refine wp rfl hC (oc_callG (τ := fun k => k) (N' := 1) hC (.val rfl) (.cons (.tmp rfl) .nil) (.v1 (.free (by first | exact inSL_I _ | simp)) .end) (cnt_f x (by omega)) glob_nil mr_nil mr_nil (by first | rfl | exact ren_agI | exact ren_free _ _ (by first | exact inSL_I _ | simp)) rd_nil rfl rfl rfl rfl (by first | exact .inl rfl | exact .inr ⟨by simp, nv_nil⟩) rfl (dst_ok rfl rfl) (fun t => setE_cons _ _ _ _)) ?_
    refine wp rfl hC (oc_move hC (.tmp rfl) rfl rfl) ?_
    refine WL_cons hC.fn (.no (s1 := ⟨_, (9, .tu []) :: _, _⟩) rfl rfl (by decide) rfl (by decide) (fun t ht => by cases ht; exact ⟨blt_lt rfl, blt_lt rfl⟩) (fun t => setE_cons _ _ _ _) rfl rfl) ?_
    refine WL_cons hC.fn (.no (s1 := ⟨_, (10, .tu []) :: _, _⟩) rfl rfl (by decide) rfl (by decide) (fun t ht => by cases ht; exact ⟨blt_lt rfl, blt_lt rfl⟩) (fun t => setE_cons _ _ _ _) rfl rfl) ?_
    refine WL_cons hC.fn (.no (s1 := ⟨_, (11, .tu []) :: _, _⟩) rfl rfl (by decide) rfl (by decide) (fun t ht => by cases ht; exact ⟨blt_lt rfl, blt_lt rfl⟩) (fun t => setE_cons _ _ _ _) rfl rfl) ?_
    refine WL_cons hC.fn (.no (s1 := ⟨_, (12, .tu []) :: _, _⟩) rfl rfl (by decide) rfl (by decide) (fun t ht => by cases ht; exact ⟨blt_lt rfl, blt_lt rfl⟩) (fun t => setE_cons _ _ _ _) rfl rfl) ?_
    refine wp rfl hC (ox_pick hC (.tmp rfl) (.tmp rfl) .cbool (by first | exact pick_t | exact pick_f | rfl) rfl rfl) ?_
    refine wp rfl hC (oc_move hC (.tmp rfl) rfl rfl) ?_
    refine WL_cons hC.fn (.no (s1 := ⟨_, (15, .tu []) :: _, _⟩) rfl rfl (by decide) rfl (by decide) (fun t ht => by cases ht; exact ⟨blt_lt rfl, blt_lt rfl⟩) (fun t => setE_cons _ _ _ _) rfl rfl) ?_
    refine WL_cons hC.fn (.no (s1 := ⟨_, (16, .tu []) :: _, _⟩) rfl rfl (by decide) rfl (by decide) (fun t ht => by cases ht; exact ⟨blt_lt rfl, blt_lt rfl⟩) (fun t => setE_cons _ _ _ _) rfl rfl) ?_
    refine WL_cons hC.fn (.no (s1 := ⟨_, (17, .tu []) :: _, _⟩) rfl rfl (by decide) rfl (by decide) (fun t ht => by cases ht; exact ⟨blt_lt rfl, blt_lt rfl⟩) (fun t => setE_cons _ _ _ _) rfl rfl) ?_
    refine wp rfl hC (ox_pick hC (.tmp rfl) (.tmp rfl) .cbool (by first | exact pick_t | exact pick_f | rfl) rfl rfl) ?_
    refine wp rfl hC (oc_move hC (.tmp rfl) rfl rfl) ?_
    refine WL_cons hC.fn (.no (s1 := ⟨_, (20, .tu []) :: _, _⟩) rfl rfl (by decide) rfl (by decide) (fun t ht => by cases ht; exact ⟨blt_lt rfl, blt_lt rfl⟩) (fun t => setE_cons _ _ _ _) rfl rfl) ?_
    refine WL_cons hC.fn (.no (s1 := ⟨_, (21, .tu []) :: _, _⟩) rfl rfl (by decide) rfl (by decide) (fun t ht => by cases ht; exact ⟨blt_lt rfl, blt_lt rfl⟩) (fun t => setE_cons _ _ _ _) rfl rfl) ?_
    refine WL_cons hC.fn (.no (s1 := ⟨_, (22, .tu []) :: _, _⟩) rfl rfl (by decide) rfl (by decide) (fun t ht => by cases ht; exact ⟨blt_lt rfl, blt_lt rfl⟩) (fun t => setE_cons _ _ _ _) rfl rfl) ?_
    refine wp rfl hC (ox_pick hC (.tmp rfl) (.tmp rfl) .cbool (by first | exact pick_t | exact pick_f | rfl) rfl rfl) ?_
    refine wp rfl hC (oc_assign hC (.tmp rfl) rfl rfl) ?_
    refine WL_nil ?_
    refine W_ret ?_
    exact fin0 (.cons (.tmp rfl) .nil) rfl trivial
  ·
    refine W_region ?_
    refine wp rfl hC (oc_move hC (.tmp rfl) rfl rfl) ?_
    refine wp rfl hC (oc_field hC (.tmp rfl) fld_25_1 (by decide) (by first | exact .p (Nat.zero_add _) | exact .p rfl | exact .rp (by decide)) rfl rfl) ?_
    refine wp rfl hC (oc_load hC (.tmp rfl) (by first | exact .p rfl | exact .rp) shp_3 (by exact (unit_nx hid)) rfl rfl) ?_
    refine wp rfl hC (oc_callG (τ := fun k => k) (N' := 1) hC (.val rfl) (.cons (.tmp rfl) .nil) (.v1 (.free (by first | exact inSL_I _ | simp)) .end) (cnt_t x (by omega)) glob_nil mr_nil mr_nil (by first | rfl | exact ren_agI | exact ren_free _ _ (by first | exact inSL_I _ | simp)) rd_nil rfl rfl rfl rfl (by first | exact .inl rfl | exact .inr ⟨by simp, nv_nil⟩) rfl (dst_ok rfl rfl) (fun t => setE_cons _ _ _ _)) ?_
    refine wp rfl hC (oc_move hC (.tmp rfl) rfl rfl) ?_
    refine WL_cons hC.fn (.yes rfl rfl (by decide) rfl (oc_move hC (.tmp rfl) rfl rfl)) ?_
    refine WL_cons hC.fn (.yes rfl rfl (by decide) rfl (oc_field hC (.tmp rfl) fld_25_3 (by decide) (by first | exact .p (Nat.zero_add _) | exact .p rfl | exact .rp (by decide)) rfl rfl)) ?_
    refine WL_cons hC.fn (.yes rfl rfl (by decide) rfl (oc_load hC (.tmp rfl) (by first | exact .p rfl | exact .rp) shp_3 (by exact (unit_ni hid)) rfl rfl)) ?_
    refine WL_cons hC.fn (.yes rfl rfl (by decide) rfl (oc_callG (τ := fun k => k) (N' := 1) hC (.val rfl) (.cons (.tmp rfl) .nil) (.v1 (.free (by first | exact inSL_I _ | simp)) .end) (cnt_f i (by omega)) glob_nil mr_nil mr_nil (by first | rfl | exact ren_agI | exact ren_free _ _ (by first | exact inSL_I _ | simp)) rd_nil rfl rfl rfl rfl (by first | exact .inl rfl | exact .inr ⟨by simp, nv_nil⟩) rfl (dst_ok rfl rfl) (fun t => setE_cons _ _ _ _))) ?_
    refine wp rfl hC (ox_pick hC (.tmp rfl) (.tmp rfl) .cbool (by first | exact pick_t | exact pick_f | rfl) rfl rfl) ?_
    refine wp rfl hC (oc_move hC (.tmp rfl) rfl rfl) ?_
    refine WL_cons hC.fn (.no (s1 := ⟨_, (15, .tu []) :: _, _⟩) rfl rfl (by decide) rfl (by decide) (fun t ht => by cases ht; exact ⟨blt_lt rfl, blt_lt rfl⟩) (fun t => setE_cons _ _ _ _) rfl rfl) ?_
    refine WL_cons hC.fn (.no (s1 := ⟨_, (16, .tu []) :: _, _⟩) rfl rfl (by decide) rfl (by decide) (fun t ht => by cases ht; exact ⟨blt_lt rfl, blt_lt rfl⟩) (fun t => setE_cons _ _ _ _) rfl rfl) ?_
    refine WL_cons hC.fn (.no (s1 := ⟨_, (17, .tu []) :: _, _⟩) rfl rfl (by decide) rfl (by decide) (fun t ht => by cases ht; exact ⟨blt_lt rfl, blt_lt rfl⟩) (fun t => setE_cons _ _ _ _) rfl rfl) ?_
    refine wp rfl hC (ox_pick hC (.tmp rfl) (.tmp rfl) .cbool (by first | exact pick_t | exact pick_f | rfl) rfl rfl) ?_
    refine wp rfl hC (oc_move hC (.tmp rfl) rfl rfl) ?_
    refine WL_cons hC.fn (.no (s1 := ⟨_, (20, .tu []) :: _, _⟩) rfl rfl (by decide) rfl (by decide) (fun t ht => by cases ht; exact ⟨blt_lt rfl, blt_lt rfl⟩) (fun t => setE_cons _ _ _ _) rfl rfl) ?_
    refine WL_cons hC.fn (.no (s1 := ⟨_, (21, .tu []) :: _, _⟩) rfl rfl (by decide) rfl (by decide) (fun t ht => by cases ht; exact ⟨blt_lt rfl, blt_lt rfl⟩) (fun t => setE_cons _ _ _ _) rfl rfl) ?_
    refine WL_cons hC.fn (.no (s1 := ⟨_, (22, .tu []) :: _, _⟩) rfl rfl (by decide) rfl (by decide) (fun t ht => by cases ht; exact ⟨blt_lt rfl, blt_lt rfl⟩) (fun t => setE_cons _ _ _ _) rfl rfl) ?_
    refine wp rfl hC (ox_pick hC (.tmp rfl) (.tmp rfl) .cbool (by first | exact pick_t | exact pick_f | rfl) rfl rfl) ?_
    refine wp rfl hC (oc_assign hC (.tmp rfl) rfl rfl) ?_
    refine WL_nil ?_
    refine W_ret ?_
    exact fin0 (.cons (.tmp rfl) .nil) rfl trivial
  ·
    refine W_region ?_
    refine wp rfl hC (oc_move hC (.tmp rfl) rfl rfl) ?_
    refine wp rfl hC (oc_field hC (.tmp rfl) fld_25_1 (by decide) (by first | exact .p (Nat.zero_add _) | exact .p rfl | exact .rp (by decide)) rfl rfl) ?_
    refine wp rfl hC (oc_load hC (.tmp rfl) (by first | exact .p rfl | exact .rp) shp_3 (by exact (unit_nx hid)) rfl rfl) ?_
    refine wp rfl hC (oc_callG (τ := fun k => k) (N' := 1) hC (.val rfl) (.cons (.tmp rfl) .nil) (.v1 (.free (by first | exact inSL_I _ | simp)) .end) (cnt_t x (by omega)) glob_nil mr_nil mr_nil (by first | rfl | exact ren_agI | exact ren_free _ _ (by first | exact inSL_I _ | simp)) rd_nil rfl rfl rfl rfl (by first | exact .inl rfl | exact .inr ⟨by simp, nv_nil⟩) rfl (dst_ok rfl rfl) (fun t => setE_cons _ _ _ _)) ?_
    refine wp rfl hC (oc_move hC (.tmp rfl) rfl rfl) ?_
    refine WL_cons hC.fn (.yes rfl rfl (by decide) rfl (oc_move hC (.tmp rfl) rfl rfl)) ?_
    refine WL_cons hC.fn (.yes rfl rfl (by decide) rfl (oc_field hC (.tmp rfl) fld_25_3 (by decide) (by first | exact .p (Nat.zero_add _) | exact .p rfl | exact .rp (by decide)) rfl rfl)) ?_
    refine WL_cons hC.fn (.yes rfl rfl (by decide) rfl (oc_load hC (.tmp rfl) (by first | exact .p rfl | exact .rp) shp_3 (by exact (unit_ni hid)) rfl rfl)) ?_
    refine WL_cons hC.fn (.yes rfl rfl (by decide) rfl (oc_callG (τ := fun k => k) (N' := 1) hC (.val rfl) (.cons (.tmp rfl) .nil) (.v1 (.free (by first | exact inSL_I _ | simp)) .end) (cnt_t i (by omega)) glob_nil mr_nil mr_nil (by first | rfl | exact ren_agI | exact ren_free _ _ (by first | exact inSL_I _ | simp)) rd_nil rfl rfl rfl rfl (by first | exact .inl rfl | exact .inr ⟨by simp, nv_nil⟩) rfl (dst_ok rfl rfl) (fun t => setE_cons _ _ _ _))) ?_
    refine wp rfl hC (ox_pick hC (.tmp rfl) (.tmp rfl) .cbool (by first | exact pick_t | exact pick_f | rfl) rfl rfl) ?_
    refine wp rfl hC (oc_move hC (.tmp rfl) rfl rfl) ?_
    refine WL_cons hC.fn (.yes rfl rfl (by decide) rfl (oc_field hC (.tmp rfl) fld_25_2 (by decide) (by first | exact .p (Nat.zero_add _) | exact .p rfl | exact .rp (by decide)) rfl rfl)) ?_
    refine WL_cons hC.fn (.yes rfl rfl (by decide) rfl (oc_load hC (.tmp rfl) (by first | exact .p rfl | exact .rp) shp_3 (by exact (unit_nv hid)) rfl rfl)) ?_
    refine WL_cons hC.fn (.yes rfl rfl (by decide) rfl (ox_cmp hC rfl (.tmp rfl) .cint (r := false) (by simp only [cmpI]; exact decide_eq_false (by omega)) rfl rfl)) ?_
    refine wp rfl hC (ox_pick hC (.tmp rfl) (.tmp rfl) .cbool (by first | exact pick_t | exact pick_f | rfl) rfl rfl) ?_
    refine wp rfl hC (oc_move hC (.tmp rfl) rfl rfl) ?_
    refine WL_cons hC.fn (.no (s1 := ⟨_, (20, .tu []) :: _, _⟩) rfl rfl (by decide) rfl (by decide) (fun t ht => by cases ht; exact ⟨blt_lt rfl, blt_lt rfl⟩) (fun t => setE_cons _ _ _ _) rfl rfl) ?_
    refine WL_cons hC.fn (.no (s1 := ⟨_, (21, .tu []) :: _, _⟩) rfl rfl (by decide) rfl (by decide) (fun t ht => by cases ht; exact ⟨blt_lt rfl, blt_lt rfl⟩) (fun t => setE_cons _ _ _ _) rfl rfl) ?_
    refine WL_cons hC.fn (.no (s1 := ⟨_, (22, .tu []) :: _, _⟩) rfl rfl (by decide) rfl (by decide) (fun t ht => by cases ht; exact ⟨blt_lt rfl, blt_lt rfl⟩) (fun t => setE_cons _ _ _ _) rfl rfl) ?_
    refine wp rfl hC (ox_pick hC (.tmp rfl) (.tmp rfl) .cbool (by first | exact pick_t | exact pick_f | rfl) rfl rfl) ?_
    refine wp rfl hC (oc_assign hC (.tmp rfl) rfl rfl) ?_
    refine WL_nil ?_
    refine W_ret ?_
    exact fin0 (.cons (.tmp rfl) .nil) rfl trivial
  ·
    refine W_region ?_
    refine wp rfl hC (oc_move hC (.tmp rfl) rfl rfl) ?_
    refine wp rfl hC (oc_field hC (.tmp rfl) fld_25_1 (by decide) (by first | exact .p (Nat.zero_add _) | exact .p rfl | exact .rp (by decide)) rfl rfl) ?_
    refine wp rfl hC (oc_load hC (.tmp rfl) (by first | exact .p rfl | exact .rp) shp_3 (by exact (unit_nx hid)) rfl rfl) ?_
    refine wp rfl hC (oc_callG (τ := fun k => k) (N' := 1) hC (.val rfl) (.cons (.tmp rfl) .nil) (.v1 (.free (by first | exact inSL_I _ | simp)) .end) (cnt_t x (by omega)) glob_nil mr_nil mr_nil (by first | rfl | exact ren_agI | exact ren_free _ _ (by first | exact inSL_I _ | simp)) rd_nil rfl rfl rfl rfl (by first | exact .inl rfl | exact .inr ⟨by simp, nv_nil⟩) rfl (dst_ok rfl rfl) (fun t => setE_cons _ _ _ _)) ?_
    refine wp rfl hC (oc_move hC (.tmp rfl) rfl rfl) ?_
    refine WL_cons hC.fn (.yes rfl rfl (by decide) rfl (oc_move hC (.tmp rfl) rfl rfl)) ?_
    refine WL_cons hC.fn (.yes rfl rfl (by decide) rfl (oc_field hC (.tmp rfl) fld_25_3 (by decide) (by first | exact .p (Nat.zero_add _) | exact .p rfl | exact .rp (by decide)) rfl rfl)) ?_
    refine WL_cons hC.fn (.yes rfl rfl (by decide) rfl (oc_load hC (.tmp rfl) (by first | exact .p rfl | exact .rp) shp_3 (by exact (unit_ni hid)) rfl rfl)) ?_
    refine WL_cons hC.fn (.yes rfl rfl (by decide) rfl (oc_callG (τ := fun k => k) (N' := 1) hC (.val rfl) (.cons (.tmp rfl) .nil) (.v1 (.free (by first | exact inSL_I _ | simp)) .end) (cnt_t i (by omega)) glob_nil mr_nil mr_nil (by first | rfl | exact ren_agI | exact ren_free _ _ (by first | exact inSL_I _ | simp)) rd_nil rfl rfl rfl rfl (by first | exact .inl rfl | exact .inr ⟨by simp, nv_nil⟩) rfl (dst_ok rfl rfl) (fun t => setE_cons _ _ _ _))) ?_
    refine wp rfl hC (ox_pick hC (.tmp rfl) (.tmp rfl) .cbool (by first | exact pick_t | exact pick_f | rfl) rfl rfl) ?_
    refine wp rfl hC (oc_move hC (.tmp rfl) rfl rfl) ?_
    refine WL_cons hC.fn (.yes rfl rfl (by decide) rfl (oc_field hC (.tmp rfl) fld_25_2 (by decide) (by first | exact .p (Nat.zero_add _) | exact .p rfl | exact .rp (by decide)) rfl rfl)) ?_
    refine WL_cons hC.fn (.yes rfl rfl (by decide) rfl (oc_load hC (.tmp rfl) (by first | exact .p rfl | exact .rp) shp_3 (by exact (unit_nv hid)) rfl rfl)) ?_
    refine WL_cons hC.fn (.yes rfl rfl (by decide) rfl (ox_cmp hC rfl (.tmp rfl) .cint (r := true) (by simp only [cmpI]; exact decide_eq_true (by omega)) rfl rfl)) ?_
    refine wp rfl hC (ox_pick hC (.tmp rfl) (.tmp rfl) .cbool (by first | exact pick_t | exact pick_f | rfl) rfl rfl) ?_
    refine wp rfl hC (oc_move hC (.tmp rfl) rfl rfl) ?_
    refine WL_cons hC.fn (.yes rfl rfl (by decide) rfl (oc_field hC (.tmp rfl) fld_25_2 (by decide) (by first | exact .p (Nat.zero_add _) | exact .p rfl | exact .rp (by decide)) rfl rfl)) ?_
    refine WL_cons hC.fn (.yes rfl rfl (by decide) rfl (oc_load hC (.tmp rfl) (by first | exact .p rfl | exact .rp) shp_3 (by exact (unit_nv hid)) rfl rfl)) ?_
    refine WL_cons hC.fn (.yes rfl rfl (by decide) rfl (ox_cmp hC rfl (.tmp rfl) .cint (r := false) (by simp only [cmpI]; exact decide_eq_false (by omega)) rfl rfl)) ?_
    refine wp rfl hC (ox_pick hC (.tmp rfl) (.tmp rfl) .cbool (by first | exact pick_t | exact pick_f | rfl) rfl rfl) ?_
    refine wp rfl hC (oc_assign hC (.tmp rfl) rfl rfl) ?_
    refine WL_nil ?_
    refine W_ret ?_
    exact fin0 (.cons (.tmp rfl) .nil) rfl trivial
set_option maxRecDepth 20000 in
set_option maxHeartbeats 4000000 in
theorem nenc_c (id : List Int) (x v i : Int) (hid : id.length = 16) (bid : B8 id) (hR : RightN x v i) : FnC Tryd.prog 19 [(1000000, .rp (I .u32 nibT))] [.ag (noteX id x v i)] [] [(0, .row 5 1 (nL id x v i).length (I .u8 (nL id x v i)))] (.row 0) := by
  have hRR := hR
  obtain ⟨g1, g2, g3, g4, g5, g6⟩ := hR
  have p1 := length_putV7 x.toNat
  have p2 := length_putV7 v.toNat
  have p3 := length_putV7 i.toNat
  have hle := length_nE (id := id) (x := x) (v := v) (i := i)
  have hll := length_nL (id := id) (x := x) (v := v) (i := i)
  have hlb := length_nB (x := x) (v := v) (i := i) hid
  have hl41 := nL_le (x := x) (v := v) (i := i) hid
  have be := B8_nE bid hRR
  have bl := B8_nL bid hRR
  have hcr := crcS_lt be
  have hd2 : (nE id x v i) ++ fixL (crcS (nE id x v i)) 4 = (nL id x v i) := by unfold nL; rfl
  have hfl : id ++ flatP [x, v, i] = (nE id x v i) := (nE_flat id x v i).symm
  have hL3 : Nums [x, v, i] := by
    intro q hq
    simp only [List.mem_cons, List.not_mem_nil, or_false] at hq
    rcases hq with rfl | rfl | rfl <;> omega
  refine FnC.introR (N0 := 0) (T := 29) (E := [(0, .ag (noteX id x v i)), (1000000, .rp (I .u32 nibT))]) Tryd.func19 rfl (by decide) mix rfl rfl rfl (by simp) rfl ⟨(by first | exact inSL_I _ | trivial | simp), trivial⟩ (by simp) (by
        intro S ha hr hw
        have s0 : S 0 := hw 0 (by first | (simp; done) | (show some _ ≠ none; simp)) (by first | rfl | simp)
        refine ⟨by first | exact inSL_I _ | simp [s0], fun k b hm => ?_⟩
        simp only [List.mem_cons, Prod.mk.injEq, List.not_mem_nil, or_false] at hm
        rcases hm with ⟨rfl, rfl⟩
        · exact ⟨s0, by first | exact inSL_I _ | simp [s0]⟩) (fun F n0 X w ρ hC hro => ?_)
  refine wsr ?_
  refine wp rfl hC (ox_box hC (.tmp rfl) flat_noteX (by first | exact cells_ag | rfl) rfl rfl) ?_
  refine wp rfl hC (oc_assign hC .cnils rfl rfl) ?_
  refine WL_nil ?_
  refine wsr ?_
  refine wp rfl hC (oc_field hC (.tmp rfl) fld_25_0 (by decide) (by first | exact .p (Nat.zero_add _) | exact .p rfl | exact .rp (by decide)) rfl rfl) ?_
  refine wp rfl hC (ox_cutA hC (.tmp rfl) .no .no idx_23 (by first | omega | (simp <;> fail) | (simp; omega)) (by first | omega | (simp <;> fail) | (simp; omega)) (by first | exact .p (by first | (simp <;> fail) | rfl) | exact .rp (by first | omega | (simp <;> fail) | (simp; omega))) (by first | exact cut_vsI | rfl) rfl rfl) ?_
  refine wp rfl hC (oc_callN hC (.cons (.tmp rfl) .nil) (.cons1 (.sl1 rfl (by exact note_id hid) (inSL_I _)) (.same (by simp))) (clone_c 16 id hid (by decide)) glob_nil (by first | exact inSL_I _ | simp) rfl (by first | exact .inl rfl | exact .inr ⟨by simp, novsL_I _⟩ | exact .inr ⟨by simp, by simp⟩) rfl rfl) ?_
  refine wp rfl hC (oc_assign hC (.tmp rfl) rfl rfl) ?_
  refine WL_nil ?_
  refine W_seq ?_
  refine wsr ?_
  refine wp rfl hC (oc_field hC (.tmp rfl) fld_25_1 (by decide) (by first | exact .p (Nat.zero_add _) | exact .p rfl | exact .rp (by decide)) rfl rfl) ?_
  refine wp rfl hC (oc_load hC (.tmp rfl) (by first | exact .p rfl | exact .rp) shp_3 (by exact (unit_nx hid)) rfl rfl) ?_
  refine wp rfl hC (oc_field hC (.tmp rfl) fld_25_2 (by decide) (by first | exact .p (Nat.zero_add _) | exact .p rfl | exact .rp (by decide)) rfl rfl) ?_
  refine wp rfl hC (oc_load hC (.tmp rfl) (by first | exact .p rfl | exact .rp) shp_3 (by exact (unit_nv hid)) rfl rfl) ?_
  refine wp rfl hC (oc_field hC (.tmp rfl) fld_25_3 (by decide) (by first | exact .p (Nat.zero_add _) | exact .p rfl | exact .rp (by decide)) rfl rfl) ?_
  refine wp rfl hC (oc_load hC (.tmp rfl) (by first | exact .p rfl | exact .rp) shp_3 (by exact (unit_ni hid)) rfl rfl) ?_
  refine wp rfl hC (ox_arr hC (.cons (.tmp rfl) (.cons (.tmp rfl) (.cons (.tmp rfl) .nil))) Tryd.underlying58 cells_3 zero_58 (by first | rfl | simp) bld_58 rfl rfl (by first | rfl | simp) rfl rfl) ?_
  refine wp rfl hC (oc_move hC .cint rfl rfl) ?_
  refine WL_nil ?_
  refine W_blk ?_
  refine W_loopW (fun (ζ : Nat) => ⟨2, [(1, .p 0 0), (3, .row 1), (15, .ag (I .i64 [x, v, i])), (16, .i .i64 ζ), (1000000, .rp (I .u32 nibT))], [(0, .blk 25 (noteX id x v i)), (1, .row 5 1 (16 + (flatP ([x, v, i].take ζ)).length) (I .u8 (id ++ (flatP ([x, v, i].take ζ)))))]⟩) (fun ζ => ζ ≤ 3) (fun ζ => 3 - ζ) (0) (Nat.zero_le _) (weak (fun k => k) (.cons rfl (by first | rfl | simp) (by show _ < _; decide) (.cons rfl (by first | rfl | simp) (by show _ < _; decide) (.cons rfl ren_agI (by first | exact inSL_I _ | simp) (.cons rfl rfl trivial (.cons rfl (by first | exact ren_agI | exact ren_vsI | exact ren_free _ _ (by first | exact inSL_I _ | simp)) (by first | exact inSL_I _ | simp) .nil))))) (.cons rfl ren_noteB rfl (by first | exact inSL_I _ | simp) (.cons rfl (renRow (by simp [flatP_nil]) (by simp [flatP_nil])) rfl (by first | exact inSL_I _ | simp) .nil)) rfl rfl rfl) ?_
  intro j hR
  replace hR : j ≤ 3 := hR
  first | show W _ _ _ ⟨2, [(1, .p 0 0), (3, .row 1), (15, .ag (I .i64 [x, v, i])), (16, .i .i64 j), (1000000, .rp (I .u32 nibT))], [(0, .blk 25 (noteX id x v i)), (1, .row 5 1 (16 + (flatP ([x, v, i].take j)).length) (I .u8 (id ++ (flatP ([x, v, i].take j)))))]⟩ | skip
  refine wsr ?_
  refine wp rfl hC (ox_cmp hC rfl (.tmp rfl) .cint rfl rfl rfl) ?_
  refine WL_nil ?_
  refine W_seq ?_
  refine W_cond rfl (by decide) (fun hc => ?_) (fun hc => ?_)
  ·
    replace hc := lss_t hc
    have hgj := hL3.get (i := j) (by simp; omega)
    have hfj := length_flatP ([x, v, i].take j)
    rw [List.length_take] at hfj
    have hm3 : min j [x, v, i].length ≤ 3 := Nat.min_le_right _ _
    refine W_skip ?_
    refine W_seq ?_
    refine W_blk ?_
    refine wsr ?_
    refine wp rfl hC (ox_index hC (j := j) (.tmp rfl) (.tmp rfl) elt_58 (by first | rfl | omega | (simp; omega)) (by first | omega | (simp; omega)) (by first | exact Nat.mul_one _ | rfl) (by first | omega | (simp <;> fail) | (simp; omega)) (by exact (unit_I (by first | omega | (simp; omega)))) rfl rfl) ?_
    refine wp rfl hC (oc_assign hC (.tmp rfl) rfl rfl) ?_
    refine WL_nil ?_
    refine W_region ?_
    refine wp rfl hC (oc_move hC (.tmp rfl) rfl rfl) ?_
    refine wp rfl hC (oc_move hC (.tmp rfl) rfl rfl) ?_
    refine wp rfl hC (oc_callN hC (.cons (.tmp rfl) (.cons (.tmp rfl) .nil)) (.cons1 (by first | exact .free (by first | exact inSL_I _ | simp) | exact .row rfl rfl (by first | exact inSL_I _ | simp) | exact .nils | exact .sl1 rfl (by first | exact cut_I | rfl) (by first | exact inSL_I _ | simp)) (.cons1 (.free (by first | exact inSL_I _ | simp)) (.same (by first | exact inSL_I _ | simp)))) (put_c (16 + (flatP ([x, v, i].take j)).length) ([x, v, i].getD j 0).toNat (id ++ (flatP ([x, v, i].take j))) ([x, v, i].getD j 0) (by simp [hid]) (by omega) (.inl ⟨by omega, by omega⟩)) glob_nil (by first | exact inSL_I _ | simp) rfl (by first | exact .inl rfl | exact .inr ⟨by simp, novsL_I _⟩ | exact .inr ⟨by simp, by simp⟩) rfl rfl) ?_
    refine wp rfl hC (oc_assign hC (.tmp rfl) rfl rfl) ?_
    refine WL_nil ?_
    refine W_region ?_
    refine wp rfl hC (oc_bin hC rfl (.tmp rfl) .cint (by first | exact i64_add (by omega) | rfl) rfl rfl) ?_
    refine wp rfl hC (oc_move hC (.tmp rfl) rfl rfl) ?_
    refine WL_nil ?_
    exact ⟨(j + 1), (by omega), (weak (fun k => bif Nat.beq k 1 then 2 else k) (.cons rfl (by first | rfl | simp) (by show _ < _; decide) (.cons rfl (by first | rfl | simp) (by show _ < _; decide) (.cons rfl ren_agI (by first | exact inSL_I _ | simp) (.cons rfl (by first | rfl | exact congrArg (AV.i _) (by omega) | exact congrArg (AV.i _) (by simp; omega)) trivial (.cons rfl (by first | exact ren_agI | exact ren_vsI | exact ren_free _ _ (by first | exact inSL_I _ | simp)) (by first | exact inSL_I _ | simp) .nil))))) (.cons rfl ren_noteB rfl (by first | exact inSL_I _ | simp) (.cons rfl (renRow (by rw [← flatP_succ (by simp; omega), List.length_append]; omega) (by rw [List.append_assoc, flatP_succ (by simp; omega)])) rfl (by first | exact inSL_I _ | simp) .nil)) rfl rfl rfl), (by omega)⟩
  ·
    replace hc := lss_f hc
    obtain rfl : j = 3 := by omega
    have hf3 : id ++ flatP ([x, v, i].take 3) = (nE id x v i) := hfl
    have hfn : 16 + (flatP ([x, v, i].take 3)).length = (nE id x v i).length := by rw [← hf3, List.length_append, hid]
    rw [hf3, hfn]
    refine W_exit ?_
    refine wsr ?_
    refine wp rfl hC (oc_move hC (.tmp rfl) rfl rfl) ?_
    refine wp rfl hC (oc_move hC (.tmp rfl) rfl rfl) ?_
    refine wp rfl hC (ox_lit hC (.cons (.tmp rfl) .nil) Tryd.underlying70 cells_22 zero_22 rfl (by decide) rfl rfl (by first | rfl | simp) rfl rfl) ?_
    refine wp rfl hC (oc_call hC (.cons (.tmp rfl) .nil) (.vs (.row rfl (.same (inSL_I _)) (.same trivial)) (.same trivial)) (sumof_c (nE id x v i).length (nE id x v i) rfl be (by omega)) (glob_cons rfl rfl (by first | exact inSL_I _ | simp) glob_nil) (by first | exact inSL_I _ | simp) (by first | exact .inl rfl | exact .inr (by simp)) rfl rfl) ?_
    refine wp rfl hC (oc_conv hC (.tmp rfl) rfl Tryd.underlying51 (r := ((crcS (nE id x v i) : Nat) : Int)) (u64_conv (by omega)) rfl rfl) ?_
    refine wp rfl hC (oc_callN hC (.cons (.tmp rfl) (.cons (.tmp rfl) (.cons .cint .nil))) (.cons1 (by first | exact .free (by first | exact inSL_I _ | simp) | exact .row rfl rfl (by first | exact inSL_I _ | simp) | exact .nils | exact .sl1 rfl (by first | exact cut_I | rfl) (by first | exact inSL_I _ | simp)) (.cons1 (.free (by first | exact inSL_I _ | simp)) (.cons1 (.free (by first | exact inSL_I _ | simp)) (.same (by first | exact inSL_I _ | simp))))) (fix_c (nE id x v i).length (crcS (nE id x v i)) 4 (nE id x v i) 4 rfl (by omega) (.inl ⟨rfl, by decide⟩)) glob_nil (by first | exact inSL_I _ | simp) rfl (by first | exact .inl rfl | exact .inr ⟨by simp, novsL_I _⟩ | exact .inr ⟨by simp, by simp⟩) rfl rfl) ?_
    rw [hd2, show (nE id x v i).length + 4 = (nL id x v i).length by omega]
    refine wp rfl hC (oc_assign hC (.tmp rfl) rfl rfl) ?_
    refine WL_nil ?_
    refine W_ret ?_
    exact fin1 (.cons (.tmp rfl) .nil) rfl rfl (inSL_I _)
set_option maxRecDepth 20000 in
set_option maxHeartbeats 4000000 in
theorem japp_c (nb : Nat) (b : List Int) (hb : b.length = nb) (hlb_ : nb ≤ 1099511626) (id : List Int) (x v i : Int) (hid : id.length = 16) (bid : B8 id) (hR : RightN x v i) : FnC Tryd.prog 10 [(1000000, .rp (I .u32 nibT))] [.vs nb (I .u8 b), .ag (noteX id x v i)] [] [(0, .row 5 1 (nb + (nB id x v i).length) (I .u8 (b ++ (nB id x v i))))] (.tu [.row 0, .i .i64 0]) := by
  have hl41 := nL_le (x := x) (v := v) (i := i) hid
  have hnb : b ++ putV (nL id x v i).length ++ (nL id x v i) = b ++ (nB id x v i) := by unfold nB; rw [List.append_assoc]
  have hnn : nb + (putV (nL id x v i).length).length + (nL id x v i).length = nb + (nB id x v i).length := by unfold nB; rw [List.length_append]; omega
  refine FnC.introR (N0 := 0) (T := 13) (E := [(0, .vs nb (I .u8 b)), (1, .ag (noteX id x v i)), (1000000, .rp (I .u32 nibT))]) Tryd.func10 rfl (by decide) mix rfl rfl rfl (by simp) rfl ⟨(by first | exact inSL_I _ | trivial | simp), (by first | exact inSL_I _ | trivial | simp), trivial⟩ (by simp) (by
        intro S ha hr hw
        have s0 : S 0 := hw 0 (by first | (simp; done) | (show some _ ≠ none; simp)) (by first | rfl | simp)
        refine ⟨by first | exact inSL_I _ | simp [s0], fun k b hm => ?_⟩
        simp only [List.mem_cons, Prod.mk.injEq, List.not_mem_nil, or_false] at hm
        rcases hm with ⟨rfl, rfl⟩
        · exact ⟨s0, by first | exact inSL_I _ | simp [s0]⟩) (fun F n0 X w ρ hC hro => ?_)
  refine wsr ?_
  refine wp rfl hC (ox_box hC (.tmp rfl) flat_noteX (by first | exact cells_ag | rfl) rfl rfl) ?_
  refine wp rfl hC (oc_assign hC .cnils rfl rfl) ?_
  refine wp rfl hC (oc_assign hC .cint rfl rfl) ?_
  refine WL_nil ?_
  refine W_seq ?_
  refine wsr ?_
  refine wp rfl hC (oc_load hC (.tmp rfl) (by first | exact .p rfl | exact .rp) shp_25 (by exact (unit_nall hid)) rfl rfl) ?_
  refine wp rfl hC (oc_call hC (.cons (.tmp rfl) .nil) (.cons1 (.free (by first | exact inSL_I _ | simp)) (.same (by first | exact inSL_I _ | simp))) (nright_t id x v i hid bid hR) glob_nil (by first | exact inSL_I _ | simp) (by first | exact .inl rfl | exact .inr (by simp)) rfl rfl) ?_
  refine wp rfl hC (oc_not hC (.tmp rfl) rfl rfl) ?_
  refine WL_nil ?_
  refine W_cond rfl (by decide) (fun hc => by cases hc) (fun _ => ?_)
  refine W_skip ?_
  refine wsr ?_
  refine wp rfl hC (oc_move hC (.tmp rfl) rfl rfl) ?_
  refine wp rfl hC (oc_load hC (.tmp rfl) (by first | exact .p rfl | exact .rp) shp_25 (by exact (unit_nall hid)) rfl rfl) ?_
  refine wp rfl hC (oc_callN hC (.cons (.tmp rfl) .nil) (.cons1 (.free (by first | exact inSL_I _ | simp)) (.same (by first | exact inSL_I _ | simp))) (nenc_c id x v i hid bid hR) (glob_cons rfl rfl (by first | exact inSL_I _ | simp) glob_nil) (by first | exact inSL_I _ | simp) rfl (by first | exact .inl rfl | exact .inr ⟨by simp, novsL_I _⟩ | exact .inr ⟨by simp, by simp⟩) rfl rfl) ?_
  refine wp rfl hC (oc_callN hC (.cons (.tmp rfl) (.cons (.tmp rfl) .nil)) (.cons1 (by first | exact .free (by first | exact inSL_I _ | simp) | exact .row rfl rfl (by first | exact inSL_I _ | simp) | exact .nils | exact .sl1 rfl (by first | exact cut_I | rfl) (by first | exact inSL_I _ | simp)) (.cons1 (by first | exact .free (by first | exact inSL_I _ | simp) | exact .row rfl rfl (by first | exact inSL_I _ | simp) | exact .nils | exact .sl1 rfl (by first | exact cut_I | rfl) (by first | exact inSL_I _ | simp)) (.same (by first | exact inSL_I _ | simp)))) (putb_c nb (nL id x v i).length b (nL id x v i) hb rfl (by omega) (by omega)) glob_nil (by first | exact inSL_I _ | simp) rfl (by first | exact .inl rfl | exact .inr ⟨by simp, novsL_I _⟩ | exact .inr ⟨by simp, by simp⟩) rfl rfl) ?_
  rw [hnb, hnn]
  refine wp rfl hC (oc_assign hC (.tmp rfl) rfl rfl) ?_
  refine wp rfl hC (oc_assign hC .cint rfl rfl) ?_
  refine WL_nil ?_
  refine W_ret ?_
  exact fin1 (.cons (.tmp rfl) (.cons (.tmp rfl) .nil)) rfl rfl (inSL_I _)
set_option maxRecDepth 20000 in
set_option maxHeartbeats 4000000 in
theorem jappno_c (nb : Nat) (b : List Int) (hb : b.length = nb) (hlb_ : nb ≤ 1099511626) (id : List Int) (x v i : Int) (hid : id.length = 16) (bid : B8 id) (hR : ¬ RightN x v i) : FnC Tryd.prog 10 [(1000000, .rp (I .u32 nibT))] [.vs nb (I .u8 b), .ag (noteX id x v i)] [] [] (.tu [.nils, .i .i64 1]) := by
  refine FnC.introR (N0 := 0) (T := 13) (E := [(0, .vs nb (I .u8 b)), (1, .ag (noteX id x v i)), (1000000, .rp (I .u32 nibT))]) Tryd.func10 rfl (by decide) mix rfl rfl rfl (by simp) rfl ⟨(by first | exact inSL_I _ | trivial | simp), (by first | exact inSL_I _ | trivial | simp), trivial⟩ (by simp) (by intro S _ _ h; simp) (fun F n0 X w ρ hC hro => ?_)
  refine wsr ?_
  refine wp rfl hC (ox_box hC (.tmp rfl) flat_noteX (by first | exact cells_ag | rfl) rfl rfl) ?_
  refine wp rfl hC (oc_assign hC .cnils rfl rfl) ?_
  refine wp rfl hC (oc_assign hC .cint rfl rfl) ?_
  refine WL_nil ?_
  refine W_seq ?_
  refine wsr ?_
  refine wp rfl hC (oc_load hC (.tmp rfl) (by first | exact .p rfl | exact .rp) shp_25 (by exact (unit_nall hid)) rfl rfl) ?_
  refine wp rfl hC (oc_call hC (.cons (.tmp rfl) .nil) (.cons1 (.free (by first | exact inSL_I _ | simp)) (.same (by first | exact inSL_I _ | simp))) (nright_f id x v i hid bid hR) glob_nil (by first | exact inSL_I _ | simp) (by first | exact .inl rfl | exact .inr (by simp)) rfl rfl) ?_
  refine wp rfl hC (oc_not hC (.tmp rfl) rfl rfl) ?_
  refine WL_nil ?_
  refine W_cond rfl (by decide) (fun _ => ?_) (fun hc => by cases hc)
  refine wsr ?_
  refine wp rfl hC (oc_assign hC .cnils rfl rfl) ?_
  refine wp rfl hC (oc_assign hC .cint rfl rfl) ?_
  refine WL_nil ?_
  refine W_ret ?_
  exact fin0 (.cons (.tmp rfl) (.cons (.tmp rfl) .nil)) rfl (by simp)
theorem unit_nid0 {t : TypeId} {x v i : Int} {id : List Int} {j : Nat} (h : id.length = 16) (hj : j < 16) : unit false 1 ((Blk.blk t (noteX id x v i)).cs.drop j) (.i .u8 (id.getD j 0)) := by have := unit_nid1 (t := t) (x := x) (v := v) (i := i) h hj; rwa [Nat.zero_add] at this
set_option maxRecDepth 20000 in
set_option maxHeartbeats 4000000 in
theorem rnright_t (id : List Int) (x v i : Int) (hid : id.length = 16) (bid : B8 id) (hR : RightN x v i) : FnC Tryd.prog 11 [] [.ag (noteX id x v i)] [] [] (.b true) := by
  obtain ⟨g1, g2, g3, g4, g5, g6⟩ := hR
  refine FnC.introR (N0 := 0) (T := 31) (E := [(0, .ag (noteX id x v i))]) Tryd.func11 rfl (by decide) mix rfl rfl rfl (by simp) rfl ⟨(by first | exact inSL_I _ | trivial | simp), trivial⟩ (by simp) (by intro S _ _ h; simp) (fun F n0 X w ρ hC hro => ?_)
  refine wsr ?_
  refine wp rfl hC (ox_box hC (.tmp rfl) flat_noteX (by first | exact cells_ag | rfl) rfl rfl) ?_
  refine wp rfl hC (oc_assign hC .cbool rfl rfl) ?_
  refine WL_nil ?_
  refine wsr ?_
  refine wp rfl hC (oc_field hC (.tmp rfl) fld_31_1 (by decide) (by first | exact .p (Nat.zero_add _) | exact .p rfl | exact .rp (by decide)) rfl rfl) ?_
  refine wp rfl hC (oc_load hC (.tmp rfl) (by first | exact .p rfl | exact .rp) shp_3 (by exact (unit_nx hid)) rfl rfl) ?_
  refine wp rfl hC (ox_cmp hC rfl (.tmp rfl) .cint (r := true) (by simp only [cmpI]; exact decide_eq_true (by omega)) rfl rfl) ?_
  refine wp rfl hC (oc_move hC (.tmp rfl) rfl rfl) ?_
  refine WL_cons hC.fn (.yes rfl rfl (by decide) rfl (oc_field hC (.tmp rfl) fld_31_1 (by decide) (by first | exact .p (Nat.zero_add _) | exact .p rfl | exact .rp (by decide)) rfl rfl)) ?_
  refine WL_cons hC.fn (.yes rfl rfl (by decide) rfl (oc_load hC (.tmp rfl) (by first | exact .p rfl | exact .rp) shp_3 (by exact (unit_nx hid)) rfl rfl)) ?_
  refine WL_cons hC.fn (.yes rfl rfl (by decide) rfl (ox_cmp hC rfl (.tmp rfl) .cint (r := true) (by simp only [cmpI]; exact decide_eq_true (by omega)) rfl rfl)) ?_
  refine wp rfl hC (ox_pick hC (.tmp rfl) (.tmp rfl) .cbool (by first | exact pick_t | exact pick_f | rfl) rfl rfl) ?_
  refine wp rfl hC (oc_move hC (.tmp rfl) rfl rfl) ?_
  refine WL_cons hC.fn (.yes rfl rfl (by decide) rfl (oc_field hC (.tmp rfl) fld_31_2 (by decide) (by first | exact .p (Nat.zero_add _) | exact .p rfl | exact .rp (by decide)) rfl rfl)) ?_
  refine WL_cons hC.fn (.yes rfl rfl (by decide) rfl (oc_load hC (.tmp rfl) (by first | exact .p rfl | exact .rp) shp_3 (by exact (unit_nv hid)) rfl rfl)) ?_
  refine WL_cons hC.fn (.yes rfl rfl (by decide) rfl (ox_cmp hC rfl (.tmp rfl) .cint (r := true) (by simp only [cmpI]; exact decide_eq_true (by omega)) rfl rfl)) ?_
  refine wp rfl hC (ox_pick hC (.tmp rfl) (.tmp rfl) .cbool (by first | exact pick_t | exact pick_f | rfl) rfl rfl) ?_
  refine wp rfl hC (oc_move hC (.tmp rfl) rfl rfl) ?_
  refine WL_cons hC.fn (.yes rfl rfl (by decide) rfl (oc_field hC (.tmp rfl) fld_31_2 (by decide) (by first | exact .p (Nat.zero_add _) | exact .p rfl | exact .rp (by decide)) rfl rfl)) ?_
  refine WL_cons hC.fn (.yes rfl rfl (by decide) rfl (oc_load hC (.tmp rfl) (by first | exact .p rfl | exact .rp) shp_3 (by exact (unit_nv hid)) rfl rfl)) ?_
  refine WL_cons hC.fn (.yes rfl rfl (by decide) rfl (ox_cmp hC rfl (.tmp rfl) .cint (r := true) (by simp only [cmpI]; exact decide_eq_true (by omega)) rfl rfl)) ?_
  refine wp rfl hC (ox_pick hC (.tmp rfl) (.tmp rfl) .cbool (by first | exact pick_t | exact pick_f | rfl) rfl rfl) ?_
  refine wp rfl hC (oc_move hC (.tmp rfl) rfl rfl) ?_
  refine WL_cons hC.fn (.yes rfl rfl (by decide) rfl (oc_field hC (.tmp rfl) fld_31_3 (by decide) (by first | exact .p (Nat.zero_add _) | exact .p rfl | exact .rp (by decide)) rfl rfl)) ?_
  refine WL_cons hC.fn (.yes rfl rfl (by decide) rfl (oc_load hC (.tmp rfl) (by first | exact .p rfl | exact .rp) shp_3 (by exact (unit_ni hid)) rfl rfl)) ?_
  refine WL_cons hC.fn (.yes rfl rfl (by decide) rfl (ox_cmp hC rfl (.tmp rfl) .cint (r := true) (by simp only [cmpI]; exact decide_eq_true (by omega)) rfl rfl)) ?_
  refine wp rfl hC (ox_pick hC (.tmp rfl) (.tmp rfl) .cbool (by first | exact pick_t | exact pick_f | rfl) rfl rfl) ?_
  refine wp rfl hC (oc_move hC (.tmp rfl) rfl rfl) ?_
  refine WL_cons hC.fn (.yes rfl rfl (by decide) rfl (oc_field hC (.tmp rfl) fld_31_3 (by decide) (by first | exact .p (Nat.zero_add _) | exact .p rfl | exact .rp (by decide)) rfl rfl)) ?_
  refine WL_cons hC.fn (.yes rfl rfl (by decide) rfl (oc_load hC (.tmp rfl) (by first | exact .p rfl | exact .rp) shp_3 (by exact (unit_ni hid)) rfl rfl)) ?_
  refine WL_cons hC.fn (.yes rfl rfl (by decide) rfl (ox_cmp hC rfl (.tmp rfl) .cint (r := true) (by simp only [cmpI]; exact decide_eq_true (by omega)) rfl rfl)) ?_
  refine wp rfl hC (ox_pick hC (.tmp rfl) (.tmp rfl) .cbool (by first | exact pick_t | exact pick_f | rfl) rfl rfl) ?_
  refine wp rfl hC (oc_assign hC (.tmp rfl) rfl rfl) ?_
  refine WL_nil ?_
  refine W_ret ?_
  exact fin0 (.cons (.tmp rfl) .nil) rfl trivial
set_option maxRecDepth 20000 in
set_option maxHeartbeats 4000000 in
theorem rnright_f (id : List Int) (x v i : Int) (hid : id.length = 16) (bid : B8 id) (hR : ¬ RightN x v i) : FnC Tryd.prog 11 [] [.ag (noteX id x v i)] [] [] (.b false) := by
  have hc : x < 0 ∨ (0 ≤ x ∧ 1099511627775 < x) ∨ (0 ≤ x ∧ x ≤ 1099511627775 ∧ v < 0) ∨ (0 ≤ x ∧ x ≤ 1099511627775 ∧ 0 ≤ v ∧ 63 < v) ∨ (0 ≤ x ∧ x ≤ 1099511627775 ∧ 0 ≤ v ∧ v ≤ 63 ∧ i < 0) ∨ (0 ≤ x ∧ x ≤ 1099511627775 ∧ 0 ≤ v ∧ v ≤ 63 ∧ 0 ≤ i ∧ 1099511627775 < i) := by unfold RightN at hR; omega
  refine FnC.introR (N0 := 0) (T := 31) (E := [(0, .ag (noteX id x v i))]) Tryd.func11 rfl (by decide) mix rfl rfl rfl (by simp) rfl ⟨(by first | exact inSL_I _ | trivial | simp), trivial⟩ (by simp) (by intro S _ _ h; simp) (fun F n0 X w ρ hC hro => ?_)
  refine wsr ?_
  refine wp rfl hC (ox_box hC (.tmp rfl) flat_noteX (by first | exact cells_ag | rfl) rfl rfl) ?_
  refine wp rfl hC (oc_assign hC .cbool rfl rfl) ?_
  refine WL_nil ?_
  refine W_seq ?_
  rcases hc with h | h | h | h | h | h
  ·
    refine W_region ?_
    refine wp rfl hC (oc_field hC (.tmp rfl) fld_31_1 (by decide) (by first | exact .p (Nat.zero_add _) | exact .p rfl | exact .rp (by decide)) rfl rfl) ?_
    refine wp rfl hC (oc_load hC (.tmp rfl) (by first | exact .p rfl | exact .rp) shp_3 (by exact (unit_nx hid)) rfl rfl) ?_
    refine wp rfl hC (ox_cmp hC rfl (.tmp rfl) .cint (r := false) (by simp only [cmpI]; exact decide_eq_false (by omega)) rfl rfl) ?_
    refine wp rfl hC (oc_move hC (.tmp rfl) rfl rfl) ?_
    refine WL_cons hC.fn (.no (s1 := ⟨_, (7, .tu []) :: _, _⟩) rfl rfl (by decide) rfl (by decide) (fun t ht => by cases ht; exact ⟨blt_lt rfl, blt_lt rfl⟩) (fun t => setE_cons _ _ _ _) rfl rfl) ?_
    refine WL_cons hC.fn (.no (s1 := ⟨_, (8, .tu []) :: _, _⟩) rfl rfl (by decide) rfl (by decide) (fun t ht => by cases ht; exact ⟨blt_lt rfl, blt_lt rfl⟩) (fun t => setE_cons _ _ _ _) rfl rfl) ?_
    refine WL_cons hC.fn (.no (s1 := ⟨_, (9, .tu []) :: _, _⟩) rfl rfl (by decide) rfl (by decide) (fun t ht => by cases ht; exact ⟨blt_lt rfl, blt_lt rfl⟩) (fun t => setE_cons _ _ _ _) rfl rfl) ?_
    refine wp rfl hC (ox_pick hC (.tmp rfl) (.tmp rfl) .cbool (by first | exact pick_t | exact pick_f | rfl) rfl rfl) ?_
    refine wp rfl hC (oc_move hC (.tmp rfl) rfl rfl) ?_
    refine WL_cons hC.fn (.no (s1 := ⟨_, (12, .tu []) :: _, _⟩) rfl rfl (by decide) rfl (by decide) (fun t ht => by cases ht; exact ⟨blt_lt rfl, blt_lt rfl⟩) (fun t => setE_cons _ _ _ _) rfl rfl) ?_
    refine WL_cons hC.fn (.no (s1 := ⟨_, (13, .tu []) :: _, _⟩) rfl rfl (by decide) rfl (by decide) (fun t ht => by cases ht; exact ⟨blt_lt rfl, blt_lt rfl⟩) (fun t => setE_cons _ _ _ _) rfl rfl) ?_
    refine WL_cons hC.fn (.no (s1 := ⟨_, (14, .tu []) :: _, _⟩) rfl rfl (by decide) rfl (by decide) (fun t ht => by cases ht; exact ⟨blt_lt rfl, blt_lt rfl⟩) (fun t => setE_cons _ _ _ _) rfl rfl) ?_
    refine wp rfl hC (ox_pick hC (.tmp rfl) (.tmp rfl) .cbool (by first | exact pick_t | exact pick_f | rfl) rfl rfl) ?_
    refine wp rfl hC (oc_move hC (.tmp rfl) rfl rfl) ?_
    refine WL_cons hC.fn (.no (s1 := ⟨_, (17, .tu []) :: _, _⟩) rfl rfl (by decide) rfl (by decide) (fun t ht => by cases ht; exact ⟨blt_lt rfl, blt_lt rfl⟩) (fun t => setE_cons _ _ _ _) rfl rfl) ?_
    refine WL_cons hC.fn (.no (s1 := ⟨_, (18, .tu []) :: _, _⟩) rfl rfl (by decide) rfl (by decide) (fun t ht => by cases ht; exact ⟨blt_lt rfl, blt_lt rfl⟩) (fun t => setE_cons _ _ _ _) rfl rfl) ?_
    refine WL_cons hC.fn (.no (s1 := ⟨_, (19, .tu []) :: _, _⟩) rfl rfl (by decide) rfl (by decide) (fun t ht => by cases ht; exact ⟨blt_lt rfl, blt_lt rfl⟩) (fun t => setE_cons _ _ _ _) rfl rfl) ?_
    refine wp rfl hC (ox_pick hC (.tmp rfl) (.tmp rfl) .cbool (by first | exact pick_t | exact pick_f | rfl) rfl rfl) ?_
    refine wp rfl hC (oc_move hC (.tmp rfl) rfl rfl) ?_
    refine WL_cons hC.fn (.no (s1 := ⟨_, (22, .tu []) :: _, _⟩) rfl rfl (by decide) rfl (by decide) (fun t ht => by cases ht; exact ⟨blt_lt rfl, blt_lt rfl⟩) (fun t => setE_cons _ _ _ _) rfl rfl) ?_
    refine WL_cons hC.fn (.no (s1 := ⟨_, (23, .tu []) :: _, _⟩) rfl rfl (by decide) rfl (by decide) (fun t ht => by cases ht; exact ⟨blt_lt rfl, blt_lt rfl⟩) (fun t => setE_cons _ _ _ _) rfl rfl) ?_
    refine WL_cons hC.fn (.no (s1 := ⟨_, (24, .tu []) :: _, _⟩) rfl rfl (by decide) rfl (by decide) (fun t ht => by cases ht; exact ⟨blt_lt rfl, blt_lt rfl⟩) (fun t => setE_cons _ _ _ _) rfl rfl) ?_
    refine wp rfl hC (ox_pick hC (.tmp rfl) (.tmp rfl) .cbool (by first | exact pick_t | exact pick_f | rfl) rfl rfl) ?_
    refine wp rfl hC (oc_move hC (.tmp rfl) rfl rfl) ?_
    refine WL_cons hC.fn (.no (s1 := ⟨_, (27, .tu []) :: _, _⟩) rfl rfl (by decide) rfl (by decide) (fun t ht => by cases ht; exact ⟨blt_lt rfl, blt_lt rfl⟩) (fun t => setE_cons _ _ _ _) rfl rfl) ?_
    refine WL_cons hC.fn (.no (s1 := ⟨_, (28, .tu []) :: _, _⟩) rfl rfl (by decide) rfl (by decide) (fun t ht => by cases ht; exact ⟨blt_lt rfl, blt_lt rfl⟩) (fun t => setE_cons _ _ _ _) rfl rfl) ?_
    refine WL_cons hC.fn (.no (s1 := ⟨_, (29, .tu []) :: _, _⟩) rfl rfl (by decide) rfl (by decide) (fun t ht => by cases ht; exact ⟨blt_lt rfl, blt_lt rfl⟩) (fun t => setE_cons _ _ _ _) rfl rfl) ?_
    refine wp rfl hC (ox_pick hC (.tmp rfl) (.tmp rfl) .cbool (by first | exact pick_t | exact pick_f | rfl) rfl rfl) ?_
    refine wp rfl hC (oc_assign hC (.tmp rfl) rfl rfl) ?_
    refine WL_nil ?_
    refine W_ret ?_
    exact fin0 (.cons (.tmp rfl) .nil) rfl trivial
  ·
    refine W_region ?_
    refine wp rfl hC (oc_field hC (.tmp rfl) fld_31_1 (by decide) (by first | exact .p (Nat.zero_add _) | exact .p rfl | exact .rp (by decide)) rfl rfl) ?_
    refine wp rfl hC (oc_load hC (.tmp rfl) (by first | exact .p rfl | exact .rp) shp_3 (by exact (unit_nx hid)) rfl rfl) ?_
    refine wp rfl hC (ox_cmp hC rfl (.tmp rfl) .cint (r := true) (by simp only [cmpI]; exact decide_eq_true (by omega)) rfl rfl) ?_
    refine wp rfl hC (oc_move hC (.tmp rfl) rfl rfl) ?_
    refine WL_cons hC.fn (.yes rfl rfl (by decide) rfl (oc_field hC (.tmp rfl) fld_31_1 (by decide) (by first | exact .p (Nat.zero_add _) | exact .p rfl | exact .rp (by decide)) rfl rfl)) ?_
    refine WL_cons hC.fn (.yes rfl rfl (by decide) rfl (oc_load hC (.tmp rfl) (by first | exact .p rfl | exact .rp) shp_3 (by exact (unit_nx hid)) rfl rfl)) ?_
    refine WL_cons hC.fn (.yes rfl rfl (by decide) rfl (ox_cmp hC rfl (.tmp rfl) .cint (r := false) (by simp only [cmpI]; exact decide_eq_false (by omega)) rfl rfl)) ?_
    refine wp rfl hC (ox_pick hC (.tmp rfl) (.tmp rfl) .cbool (by first | exact pick_t | exact pick_f | rfl) rfl rfl) ?_
    refine wp rfl hC (oc_move hC (.tmp rfl) rfl rfl) ?_
    refine WL_cons hC.fn (.no (s1 := ⟨_, (12, .tu []) :: _, _⟩) rfl rfl (by decide) rfl (by decide) (fun t ht => by cases ht; exact ⟨blt_lt rfl, blt_lt rfl⟩) (fun t => setE_cons _ _ _ _) rfl rfl) ?_
    refine WL_cons hC.fn (.no (s1 := ⟨_, (13, .tu []) :: _, _⟩) rfl rfl (by decide) rfl (by decide) (fun t ht => by cases ht; exact ⟨blt_lt rfl, blt_lt rfl⟩) (fun t => setE_cons _ _ _ _) rfl rfl) ?_
    refine WL_cons hC.fn (.no (s1 := ⟨_, (14, .tu []) :: _, _⟩) rfl rfl (by decide) rfl (by decide) (fun t ht => by cases ht; exact ⟨blt_lt rfl, blt_lt rfl⟩) (fun t => setE_cons _ _ _ _) rfl rfl) ?_
    refine wp rfl hC (ox_pick hC (.tmp rfl) (.tmp rfl) .cbool (by first | exact pick_t | exact pick_f | rfl) rfl rfl) ?_
    refine wp rfl hC (oc_move hC (.tmp rfl) rfl rfl) ?_
    refine WL_cons hC.fn (.no (s1 := ⟨_, (17, .tu []) :: _, _⟩) rfl rfl (by decide) rfl (by decide) (fun t ht => by cases ht; exact ⟨blt_lt rfl, blt_lt rfl⟩) (fun t => setE_cons _ _ _ _) rfl rfl) ?_
    refine WL_cons hC.fn (.no (s1 := ⟨_, (18, .tu []) :: _, _⟩) rfl rfl (by decide) rfl (by decide) (fun t ht => by cases ht; exact ⟨blt_lt rfl, blt_lt rfl⟩) (fun t => setE_cons _ _ _ _) rfl rfl) ?_
    refine WL_cons hC.fn (.no (s1 := ⟨_, (19, .tu []) :: _, _⟩) rfl rfl (by decide) rfl (by decide) (fun t ht => by cases ht; exact ⟨blt_lt rfl, blt_lt rfl⟩) (fun t => setE_cons _ _ _ _) rfl rfl) ?_
    refine wp rfl hC (ox_pick hC (.tmp rfl) (.tmp rfl) .cbool (by first | exact pick_t | exact pick_f | rfl) rfl rfl) ?_
    refine wp rfl hC (oc_move hC (.tmp rfl) rfl rfl) ?_
    refine WL_cons hC.fn (.no (s1 := ⟨_, (22, .tu []) :: _, _⟩) rfl rfl (by decide) rfl (by decide) (fun t ht => by cases ht; exact ⟨blt_lt rfl, blt_lt rfl⟩) (fun t => setE_cons _ _ _ _) rfl rfl) ?_
    refine WL_cons hC.fn (.no (s1 := ⟨_, (23, .tu []) :: _, _⟩) rfl rfl (by decide) rfl (by decide) (fun t ht => by cases ht; exact ⟨blt_lt rfl, blt_lt rfl⟩) (fun t => setE_cons _ _ _ _) rfl rfl) ?_
    refine WL_cons hC.fn (.no (s1 := ⟨_, (24, .tu []) :: _, _⟩) rfl rfl (by decide) rfl (by decide) (fun t ht => by cases ht; exact ⟨blt_lt rfl, blt_lt rfl⟩) (fun t => setE_cons _ _ _ _) rfl rfl) ?_
    refine wp rfl hC (ox_pick hC (.tmp rfl) (.tmp rfl) .cbool (by first | exact pick_t | exact pick_f | rfl) rfl rfl) ?_
    refine wp rfl hC (oc_move hC (.tmp rfl) rfl rfl) ?_
    refine WL_cons hC.fn (.no (s1 := ⟨_, (27, .tu []) :: _, _⟩) rfl rfl (by decide) rfl (by decide) (fun t ht => by cases ht; exact ⟨blt_lt rfl, blt_lt rfl⟩) (fun t => setE_cons _ _ _ _) rfl rfl) ?_
    refine WL_cons hC.fn (.no (s1 := ⟨_, (28, .tu []) :: _, _⟩) rfl rfl (by decide) rfl (by decide) (fun t ht => by cases ht; exact ⟨blt_lt rfl, blt_lt rfl⟩) (fun t => setE_cons _ _ _ _) rfl rfl) ?_
    refine WL_cons hC.fn (.no (s1 := ⟨_, (29, .tu []) :: _, _⟩) rfl rfl (by decide) rfl (by decide) (fun t ht => by cases ht; exact ⟨blt_lt rfl, blt_lt rfl⟩) (fun t => setE_cons _ _ _ _) rfl rfl) ?_
    refine wp rfl hC (ox_pick hC (.tmp rfl) (.tmp rfl) .cbool (by first | exact pick_t | exact pick_f | rfl) rfl rfl) ?_
    refine wp rfl hC (oc_assign hC (.tmp rfl) rfl rfl) ?_
    refine WL_nil ?_
    refine W_ret ?_
    exact fin0 (.cons (.tmp rfl) .nil) rfl trivial
  ·
    refine W_region ?_
    refine wp rfl hC (oc_field hC (.tmp rfl) fld_31_1 (by decide) (by first | exact .p (Nat.zero_add _) | exact .p rfl | exact .rp (by decide)) rfl rfl) ?_
    refine wp rfl hC (oc_load hC (.tmp rfl) (by first | exact .p rfl | exact .rp) shp_3 (by exact (unit_nx hid)) rfl rfl) ?_
    refine wp rfl hC (ox_cmp hC rfl (.tmp rfl) .cint (r := true) (by simp only [cmpI]; exact decide_eq_true (by omega)) rfl rfl) ?_
    refine wp rfl hC (oc_move hC (.tmp rfl) rfl rfl) ?_
    refine WL_cons hC.fn (.yes rfl rfl (by decide) rfl (oc_field hC (.tmp rfl) fld_31_1 (by decide) (by first | exact .p (Nat.zero_add _) | exact .p rfl | exact .rp (by decide)) rfl rfl)) ?_
    refine WL_cons hC.fn (.yes rfl rfl (by decide) rfl (oc_load hC (.tmp rfl) (by first | exact .p rfl | exact .rp) shp_3 (by exact (unit_nx hid)) rfl rfl)) ?_
    refine WL_cons hC.fn (.yes rfl rfl (by decide) rfl (ox_cmp hC rfl (.tmp rfl) .cint (r := true) (by simp only [cmpI]; exact decide_eq_true (by omega)) rfl rfl)) ?_
    refine wp rfl hC (ox_pick hC (.tmp rfl) (.tmp rfl) .cbool (by first | exact pick_t | exact pick_f | rfl) rfl rfl) ?_
    refine wp rfl hC (oc_move hC (.tmp rfl) rfl rfl) ?_
    refine WL_cons hC.fn (.yes rfl rfl (by decide) rfl (oc_field hC (.tmp rfl) fld_31_2 (by decide) (by first | exact .p (Nat.zero_add _) | exact .p rfl | exact .rp (by decide)) rfl rfl)) ?_
    refine WL_cons hC.fn (.yes rfl rfl (by decide) rfl (oc_load hC (.tmp rfl) (by first | exact .p rfl | exact .rp) shp_3 (by exact (unit_nv hid)) rfl rfl)) ?_
    refine WL_cons hC.fn (.yes rfl rfl (by decide) rfl (ox_cmp hC rfl (.tmp rfl) .cint (r := false) (by simp only [cmpI]; exact decide_eq_false (by omega)) rfl rfl)) ?_
    refine wp rfl hC (ox_pick hC (.tmp rfl) (.tmp rfl) .cbool (by first | exact pick_t | exact pick_f | rfl) rfl rfl) ?_
    refine wp rfl hC (oc_move hC (.tmp rfl) rfl rfl) ?_
    refine WL_cons hC.fn (.no (s1 := ⟨_, (17, .tu []) :: _, _⟩) rfl rfl (by decide) rfl (by decide) (fun t ht => by cases ht; exact ⟨blt_lt rfl, blt_lt rfl⟩) (fun t => setE_cons _ _ _ _) rfl rfl) ?_
    refine WL_cons hC.fn (.no (s1 := ⟨_, (18, .tu []) :: _, _⟩) rfl rfl (by decide) rfl (by decide) (fun t ht => by cases ht; exact ⟨blt_lt rfl, blt_lt rfl⟩) (fun t => setE_cons _ _ _ _) rfl rfl) ?_
    refine WL_cons hC.fn (.no (s1 := ⟨_, (19, .tu []) :: _, _⟩) rfl rfl (by decide) rfl (by decide) (fun t ht => by cases ht; exact ⟨blt_lt rfl, blt_lt rfl⟩) (fun t => setE_cons _ _ _ _) rfl rfl) ?_
    refine wp rfl hC (ox_pick hC (.tmp rfl) (.tmp rfl) .cbool (by first | exact pick_t | exact pick_f | rfl) rfl rfl) ?_
    refine wp rfl hC (oc_move hC (.tmp rfl) rfl rfl) ?_
    refine WL_cons hC.fn (.no (s1 := ⟨_, (22, .tu []) :: _, _⟩) rfl rfl (by decide) rfl (by decide) (fun t ht => by cases ht; exact ⟨blt_lt rfl, blt_lt rfl⟩) (fun t => setE_cons _ _ _ _) rfl rfl) ?_
    refine WL_cons hC.fn (.no (s1 := ⟨_, (23, .tu []) :: _, _⟩) rfl rfl (by decide) rfl (by decide) (fun t ht => by cases ht; exact ⟨blt_lt rfl, blt_lt rfl⟩) (fun t => setE_cons _ _ _ _) rfl rfl) ?_
    refine WL_cons hC.fn (.no (s1 := ⟨_, (24, .tu []) :: _, _⟩) rfl rfl (by decide) rfl (by decide) (fun t ht => by cases ht; exact ⟨blt_lt rfl, blt_lt rfl⟩) (fun t => setE_cons _ _ _ _) rfl rfl) ?_
    refine wp rfl hC (ox_pick hC (.tmp rfl) (.tmp rfl) .cbool (by first | exact pick_t | exact pick_f | rfl) rfl rfl) ?_
    refine wp rfl hC (oc_move hC (.tmp rfl) rfl rfl) ?_
    refine WL_cons hC.fn (.no (s1 := ⟨_, (27, .tu []) :: _, _⟩) rfl rfl (by decide) rfl (by decide) (fun t ht => by cases ht; exact ⟨blt_lt rfl, blt_lt rfl⟩) (fun t => setE_cons _ _ _ _) rfl rfl) ?_
    refine WL_cons hC.fn (.no (s1 := ⟨_, (28, .tu []) :: _, _⟩) rfl rfl (by decide) rfl (by decide) (fun t ht => by cases ht; exact ⟨blt_lt rfl, blt_lt rfl⟩) (fun t => setE_cons _ _ _ _) rfl rfl) ?_
    refine WL_cons hC.fn (.no (s1 := ⟨_, (29, .tu []) :: _, _⟩) rfl rfl (by decide) rfl (by decide) (fun t ht => by cases ht; exact ⟨blt_lt rfl, blt_lt rfl⟩) (fun t => setE_cons _ _ _ _) rfl rfl) ?_
    refine wp rfl hC (ox_pick hC (.tmp rfl) (.tmp rfl) .cbool (by first | exact pick_t | exact pick_f | rfl) rfl rfl) ?_
    refine wp rfl hC (oc_assign hC (.tmp rfl) rfl rfl) ?_
    refine WL_nil ?_
    refine W_ret ?_
    exact fin0 (.cons (.tmp rfl) .nil) rfl trivial
  ·
    refine W_region ?_
    refine wp rfl hC (oc_field hC (.tmp rfl) fld_31_1 (by decide) (by first | exact .p (Nat.zero_add _) | exact .p rfl | exact .rp (by decide)) rfl rfl) ?_
    refine wp rfl hC (oc_load hC (.tmp rfl) (by first | exact .p rfl | exact .rp) shp_3 (by exact (unit_nx hid)) rfl rfl) ?_
    refine wp rfl hC (ox_cmp hC rfl (.tmp rfl) .cint (r := true) (by simp only [cmpI]; exact decide_eq_true (by omega)) rfl rfl) ?_
    refine wp rfl hC (oc_move hC (.tmp rfl) rfl rfl) ?_
    refine WL_cons hC.fn (.yes rfl rfl (by decide) rfl (oc_field hC (.tmp rfl) fld_31_1 (by decide) (by first | exact .p (Nat.zero_add _) | exact .p rfl | exact .rp (by decide)) rfl rfl)) ?_
    refine WL_cons hC.fn (.yes rfl rfl (by decide) rfl (oc_load hC (.tmp rfl) (by first | exact .p rfl | exact .rp) shp_3 (by exact (unit_nx hid)) rfl rfl)) ?_
    refine WL_cons hC.fn (.yes rfl rfl (by decide) rfl (ox_cmp hC rfl (.tmp rfl) .cint (r := true) (by simp only [cmpI]; exact decide_eq_true (by omega)) rfl rfl)) ?_
    refine wp rfl hC (ox_pick hC (.tmp rfl) (.tmp rfl) .cbool (by first | exact pick_t | exact pick_f | rfl) rfl rfl) ?_
    refine wp rfl hC (oc_move hC (.tmp rfl) rfl rfl) ?_
    refine WL_cons hC.fn (.yes rfl rfl (by decide) rfl (oc_field hC (.tmp rfl) fld_31_2 (by decide) (by first | exact .p (Nat.zero_add _) | exact .p rfl | exact .rp (by decide)) rfl rfl)) ?_
    refine WL_cons hC.fn (.yes rfl rfl (by decide) rfl (oc_load hC (.tmp rfl) (by first | exact .p rfl | exact .rp) shp_3 (by exact (unit_nv hid)) rfl rfl)) ?_
    refine WL_cons hC.fn (.yes rfl rfl (by decide) rfl (ox_cmp hC rfl (.tmp rfl) .cint (r := true) (by simp only [cmpI]; exact decide_eq_true (by omega)) rfl rfl)) ?_
    refine wp rfl hC (ox_pick hC (.tmp rfl) (.tmp rfl) .cbool (by first | exact pick_t | exact pick_f | rfl) rfl rfl) ?_
    refine wp rfl hC (oc_move hC (.tmp rfl) rfl rfl) ?_
    refine WL_cons hC.fn (.yes rfl rfl (by decide) rfl (oc_field hC (.tmp rfl) fld_31_2 (by decide) (by first | exact .p (Nat.zero_add _) | exact .p rfl | exact .rp (by decide)) rfl rfl)) ?_
    refine WL_cons hC.fn (.yes rfl rfl (by decide) rfl (oc_load hC (.tmp rfl) (by first | exact .p rfl | exact .rp) shp_3 (by exact (unit_nv hid)) rfl rfl)) ?_
    refine WL_cons hC.fn (.yes rfl rfl (by decide) rfl (ox_cmp hC rfl (.tmp rfl) .cint (r := false) (by simp only [cmpI]; exact decide_eq_false (by omega)) rfl rfl)) ?_
    refine wp rfl hC (ox_pick hC (.tmp rfl) (.tmp rfl) .cbool (by first | exact pick_t | exact pick_f | rfl) rfl rfl) ?_
    refine wp rfl hC (oc_move hC (.tmp rfl) rfl rfl) ?_
    refine WL_cons hC.fn (.no (s1 := ⟨_, (22, .tu []) :: _, _⟩) rfl rfl (by decide) rfl (by decide) (fun t ht => by cases ht; exact ⟨blt_lt rfl, blt_lt rfl⟩) (fun t => setE_cons _ _ _ _) rfl rfl) ?_
    refine WL_cons hC.fn (.no (s1 := ⟨_, (23, .tu []) :: _, _⟩) rfl rfl (by decide) rfl (by decide) (fun t ht => by cases ht; exact ⟨blt_lt rfl, blt_lt rfl⟩) (fun t => setE_cons _ _ _ _) rfl rfl) ?_
    refine WL_cons hC.fn (.no (s1 := ⟨_, (24, .tu []) :: _, _⟩) rfl rfl (by decide) rfl (by decide) (fun t ht => by cases ht; exact ⟨blt_lt rfl, blt_lt rfl⟩) (fun t => setE_cons _ _ _ _) rfl rfl) ?_
    refine wp rfl hC (ox_pick hC (.tmp rfl) (.tmp rfl) .cbool (by first | exact pick_t | exact pick_f | rfl) rfl rfl) ?_
    refine wp rfl hC (oc_move hC (.tmp rfl) rfl rfl) ?_
    refine WL_cons hC.fn (.no (s1 := ⟨_, (27, .tu []) :: _, _⟩) rfl rfl (by decide) rfl (by decide) (fun t ht => by cases ht; exact ⟨blt_lt rfl, blt_lt rfl⟩) (fun t => setE_cons _ _ _ _) rfl rfl) ?_
    refine WL_cons hC.fn (.no (s1 := ⟨_, (28, .tu []) :: _, _⟩) rfl rfl (by decide) rfl (by decide) (fun t ht => by cases ht; exact ⟨blt_lt rfl, blt_lt rfl⟩) (fun t => setE_cons _ _ _ _) rfl rfl) ?_
    refine WL_cons hC.fn (.no (s1 := ⟨_, (29, .tu []) :: _, _⟩) rfl rfl (by decide) rfl (by decide) (fun t ht => by cases ht; exact ⟨blt_lt rfl, blt_lt rfl⟩) (fun t => setE_cons _ _ _ _) rfl rfl) ?_
    refine wp rfl hC (ox_pick hC (.tmp rfl) (.tmp rfl) .cbool (by first | exact pick_t | exact pick_f | rfl) rfl rfl) ?_
    refine wp rfl hC (oc_assign hC (.tmp rfl) rfl rfl) ?_
    refine WL_nil ?_
    refine W_ret ?_
    exact fin0 (.cons (.tmp rfl) .nil) rfl trivial
  ·
    refine W_region ?_
    refine wp rfl hC (oc_field hC (.tmp rfl) fld_31_1 (by decide) (by first | exact .p (Nat.zero_add _) | exact .p rfl | exact .rp (by decide)) rfl rfl) ?_
    refine wp rfl hC (oc_load hC (.tmp rfl) (by first | exact .p rfl | exact .rp) shp_3 (by exact (unit_nx hid)) rfl rfl) ?_
    refine wp rfl hC (ox_cmp hC rfl (.tmp rfl) .cint (r := true) (by simp only [cmpI]; exact decide_eq_true (by omega)) rfl rfl) ?_
    refine wp rfl hC (oc_move hC (.tmp rfl) rfl rfl) ?_
    refine WL_cons hC.fn (.yes rfl rfl (by decide) rfl (oc_field hC (.tmp rfl) fld_31_1 (by decide) (by first | exact .p (Nat.zero_add _) | exact .p rfl | exact .rp (by decide)) rfl rfl)) ?_
    refine WL_cons hC.fn (.yes rfl rfl (by decide) rfl (oc_load hC (.tmp rfl) (by first | exact .p rfl | exact .rp) shp_3 (by exact (unit_nx hid)) rfl rfl)) ?_
    refine WL_cons hC.fn (.yes rfl rfl (by decide) rfl (ox_cmp hC rfl (.tmp rfl) .cint (r := true) (by simp only [cmpI]; exact decide_eq_true (by omega)) rfl rfl)) ?_
    refine wp rfl hC (ox_pick hC (.tmp rfl) (.tmp rfl) .cbool (by first | exact pick_t | exact pick_f | rfl) rfl rfl) ?_
    refine wp rfl hC (oc_move hC (.tmp rfl) rfl rfl) ?_
    refine WL_cons hC.fn (.yes rfl rfl (by decide) rfl (oc_field hC (.tmp rfl) fld_31_2 (by decide) (by first | exact .p (Nat.zero_add _) | exact .p rfl | exact .rp (by decide)) rfl rfl)) ?_
    refine WL_cons hC.fn (.yes rfl rfl (by decide) rfl (oc_load hC (.tmp rfl) (by first | exact .p rfl | exact .rp) shp_3 (by exact (unit_nv hid)) rfl rfl)) ?_
    refine WL_cons hC.fn (.yes rfl rfl (by decide) rfl (ox_cmp hC rfl (.tmp rfl) .cint (r := true) (by simp only [cmpI]; exact decide_eq_true (by omega)) rfl rfl)) ?_
    refine wp rfl hC (ox_pick hC (.tmp rfl) (.tmp rfl) .cbool (by first | exact pick_t | exact pick_f | rfl) rfl rfl) ?_
    refine wp rfl hC (oc_move hC (.tmp rfl) rfl rfl) ?_
    refine WL_cons hC.fn (.yes rfl rfl (by decide) rfl (oc_field hC (.tmp rfl) fld_31_2 (by decide) (by first | exact .p (Nat.zero_add _) | exact .p rfl | exact .rp (by decide)) rfl rfl)) ?_
    refine WL_cons hC.fn (.yes rfl rfl (by decide) rfl (oc_load hC (.tmp rfl) (by first | exact .p rfl | exact .rp) shp_3 (by exact (unit_nv hid)) rfl rfl)) ?_
    refine WL_cons hC.fn (.yes rfl rfl (by decide) rfl (ox_cmp hC rfl (.tmp rfl) .cint (r := true) (by simp only [cmpI]; exact decide_eq_true (by omega)) rfl rfl)) ?_
    refine wp rfl hC (ox_pick hC (.tmp rfl) (.tmp rfl) .cbool (by first | exact pick_t | exact pick_f | rfl) rfl rfl) ?_
    refine wp rfl hC (oc_move hC (.tmp rfl) rfl rfl) ?_
    refine WL_cons hC.fn (.yes rfl rfl (by decide) rfl (oc_field hC (.tmp rfl) fld_31_3 (by decide) (by first | exact .p (Nat.zero_add _) | exact .p rfl | exact .rp (by decide)) rfl rfl)) ?_
    refine WL_cons hC.fn (.yes rfl rfl (by decide) rfl (oc_load hC (.tmp rfl) (by first | exact .p rfl | exact .rp) shp_3 (by exact (unit_ni hid)) rfl rfl)) ?_
    refine WL_cons hC.fn (.yes rfl rfl (by decide) rfl (ox_cmp hC rfl (.tmp rfl) .cint (r := false) (by simp only [cmpI]; exact decide_eq_false (by omega)) rfl rfl)) ?_
    refine wp rfl hC (ox_pick hC (.tmp rfl) (.tmp rfl) .cbool (by first | exact pick_t | exact pick_f | rfl) rfl rfl) ?_
    refine wp rfl hC (oc_move hC (.tmp rfl) rfl rfl) ?_
    refine WL_cons hC.fn (.no (s1 := ⟨_, (27, .tu []) :: _, _⟩) rfl rfl (by decide) rfl (by decide) (fun t ht => by cases ht; exact ⟨blt_lt rfl, blt_lt rfl⟩) (fun t => setE_cons _ _ _ _) rfl rfl) ?_
    refine WL_cons hC.fn (.no (s1 := ⟨_, (28, .tu []) :: _, _⟩) rfl rfl (by decide) rfl (by decide) (fun t ht => by cases ht; exact ⟨blt_lt rfl, blt_lt rfl⟩) (fun t => setE_cons _ _ _ _) rfl rfl) ?_
    refine WL_cons hC.fn (.no (s1 := ⟨_, (29, .tu []) :: _, _⟩) rfl rfl (by decide) rfl (by decide) (fun t ht => by cases ht; exact ⟨blt_lt rfl, blt_lt rfl⟩) (fun t => setE_cons _ _ _ _) rfl rfl) ?_
    refine wp rfl hC (ox_pick hC (.tmp rfl) (.tmp rfl) .cbool (by first | exact pick_t | exact pick_f | rfl) rfl rfl) ?_
    refine wp rfl hC (oc_assign hC (.tmp rfl) rfl rfl) ?_
    refine WL_nil ?_
    refine W_ret ?_
    exact fin0 (.cons (.tmp rfl) .nil) rfl trivial
  ·
    refine W_region ?_
    refine wp rfl hC (oc_field hC (.tmp rfl) fld_31_1 (by decide) (by first | exact .p (Nat.zero_add _) | exact .p rfl | exact .rp (by decide)) rfl rfl) ?_
    refine wp rfl hC (oc_load hC (.tmp rfl) (by first | exact .p rfl | exact .rp) shp_3 (by exact (unit_nx hid)) rfl rfl) ?_
    refine wp rfl hC (ox_cmp hC rfl (.tmp rfl) .cint (r := true) (by simp only [cmpI]; exact decide_eq_true (by omega)) rfl rfl) ?_
    refine wp rfl hC (oc_move hC (.tmp rfl) rfl rfl) ?_
    refine WL_cons hC.fn (.yes rfl rfl (by decide) rfl (oc_field hC (.tmp rfl) fld_31_1 (by decide) (by first | exact .p (Nat.zero_add _) | exact .p rfl | exact .rp (by decide)) rfl rfl)) ?_
    refine WL_cons hC.fn (.yes rfl rfl (by decide) rfl (oc_load hC (.tmp rfl) (by first | exact .p rfl | exact .rp) shp_3 (by exact (unit_nx hid)) rfl rfl)) ?_
    refine WL_cons hC.fn (.yes rfl rfl (by decide) rfl (ox_cmp hC rfl (.tmp rfl) .cint (r := true) (by simp only [cmpI]; exact decide_eq_true (by omega)) rfl rfl)) ?_
    refine wp rfl hC (ox_pick hC (.tmp rfl) (.tmp rfl) .cbool (by first | exact pick_t | exact pick_f | rfl) rfl rfl) ?_
    refine wp rfl hC (oc_move hC (.tmp rfl) rfl rfl) ?_
    refine WL_cons hC.fn (.yes rfl rfl (by decide) rfl (oc_field hC (.tmp rfl) fld_31_2 (by decide) (by first | exact .p (Nat.zero_add _) | exact .p rfl | exact .rp (by decide)) rfl rfl)) ?_
    refine WL_cons hC.fn (.yes rfl rfl (by decide) rfl (oc_load hC (.tmp rfl) (by first | exact .p rfl | exact .rp) shp_3 (by exact (unit_nv hid)) rfl rfl)) ?_
    refine WL_cons hC.fn (.yes rfl rfl (by decide) rfl (ox_cmp hC rfl (.tmp rfl) .cint (r := true) (by simp only [cmpI]; exact decide_eq_true (by omega)) rfl rfl)) ?_
    refine wp rfl hC (ox_pick hC (.tmp rfl) (.tmp rfl) .cbool (by first | exact pick_t | exact pick_f | rfl) rfl rfl) ?_
    refine wp rfl hC (oc_move hC (.tmp rfl) rfl rfl) ?_
    refine WL_cons hC.fn (.yes rfl rfl (by decide) rfl (oc_field hC (.tmp rfl) fld_31_2 (by decide) (by first | exact .p (Nat.zero_add _) | exact .p rfl | exact .rp (by decide)) rfl rfl)) ?_
    refine WL_cons hC.fn (.yes rfl rfl (by decide) rfl (oc_load hC (.tmp rfl) (by first | exact .p rfl | exact .rp) shp_3 (by exact (unit_nv hid)) rfl rfl)) ?_
    refine WL_cons hC.fn (.yes rfl rfl (by decide) rfl (ox_cmp hC rfl (.tmp rfl) .cint (r := true) (by simp only [cmpI]; exact decide_eq_true (by omega)) rfl rfl)) ?_
    refine wp rfl hC (ox_pick hC (.tmp rfl) (.tmp rfl) .cbool (by first | exact pick_t | exact pick_f | rfl) rfl rfl) ?_
    refine wp rfl hC (oc_move hC (.tmp rfl) rfl rfl) ?_
    refine WL_cons hC.fn (.yes rfl rfl (by decide) rfl (oc_field hC (.tmp rfl) fld_31_3 (by decide) (by first | exact .p (Nat.zero_add _) | exact .p rfl | exact .rp (by decide)) rfl rfl)) ?_
    refine WL_cons hC.fn (.yes rfl rfl (by decide) rfl (oc_load hC (.tmp rfl) (by first | exact .p rfl | exact .rp) shp_3 (by exact (unit_ni hid)) rfl rfl)) ?_
    refine WL_cons hC.fn (.yes rfl rfl (by decide) rfl (ox_cmp hC rfl (.tmp rfl) .cint (r := true) (by simp only [cmpI]; exact decide_eq_true (by omega)) rfl rfl)) ?_
    refine wp rfl hC (ox_pick hC (.tmp rfl) (.tmp rfl) .cbool (by first | exact pick_t | exact pick_f | rfl) rfl rfl) ?_
    refine wp rfl hC (oc_move hC (.tmp rfl) rfl rfl) ?_
    refine WL_cons hC.fn (.yes rfl rfl (by decide) rfl (oc_field hC (.tmp rfl) fld_31_3 (by decide) (by first | exact .p (Nat.zero_add _) | exact .p rfl | exact .rp (by decide)) rfl rfl)) ?_
    refine WL_cons hC.fn (.yes rfl rfl (by decide) rfl (oc_load hC (.tmp rfl) (by first | exact .p rfl | exact .rp) shp_3 (by exact (unit_ni hid)) rfl rfl)) ?_
    refine WL_cons hC.fn (.yes rfl rfl (by decide) rfl (ox_cmp hC rfl (.tmp rfl) .cint (r := false) (by simp only [cmpI]; exact decide_eq_false (by omega)) rfl rfl)) ?_
    refine wp rfl hC (ox_pick hC (.tmp rfl) (.tmp rfl) .cbool (by first | exact pick_t | exact pick_f | rfl) rfl rfl) ?_
    refine wp rfl hC (oc_assign hC (.tmp rfl) rfl rfl) ?_
    refine WL_nil ?_
    refine W_ret ?_
    exact fin0 (.cons (.tmp rfl) .nil) rfl trivial
set_option maxRecDepth 20000 in
set_option maxHeartbeats 4000000 in
theorem ngiven_c (id : List Int) (x v i : Int) (hid : id.length = 16) (bid : B8 id) : FnC Tryd.prog 12 [] [.ag (noteX id x v i)] [] [] (.ag (noteX id x v i)) := by
  refine FnC.introR (N0 := 0) (T := 12) (E := [(0, .ag (noteX id x v i))]) Tryd.func12 rfl (by decide) mix rfl rfl rfl (by simp) rfl ⟨(by first | exact inSL_I _ | trivial | simp), trivial⟩ (by simp) (by intro S _ _ h; simp) (fun F n0 X w ρ hC hro => ?_)
  refine wsr ?_
  refine wp rfl hC (ox_box hC (.tmp rfl) flat_noteX (by first | exact cells_ag | rfl) rfl rfl) ?_
  refine wp rfl hC (ox_alloc (cs' := noteX (List.replicate 16 0) 0 0 0) hC zero_31 (by unfold noteX; rfl) rfl rfl) ?_
  refine WL_nil ?_
  refine wsr ?_
  refine wp rfl hC (oc_field hC (.tmp rfl) fld_25_0 (by decide) (by first | exact .p (Nat.zero_add _) | exact .p rfl | exact .rp (by decide)) rfl rfl) ?_
  refine wp rfl hC (oc_load hC (.tmp rfl) (by first | exact .p rfl | exact .rp) shp_23 (by exact (unit_nid hid)) rfl rfl) ?_
  refine wp rfl hC (oc_field hC (.tmp rfl) fld_25_1 (by decide) (by first | exact .p (Nat.zero_add _) | exact .p rfl | exact .rp (by decide)) rfl rfl) ?_
  refine wp rfl hC (oc_load hC (.tmp rfl) (by first | exact .p rfl | exact .rp) shp_3 (by exact (unit_nx hid)) rfl rfl) ?_
  refine wp rfl hC (oc_field hC (.tmp rfl) fld_25_2 (by decide) (by first | exact .p (Nat.zero_add _) | exact .p rfl | exact .rp (by decide)) rfl rfl) ?_
  refine wp rfl hC (oc_load hC (.tmp rfl) (by first | exact .p rfl | exact .rp) shp_3 (by exact (unit_nv hid)) rfl rfl) ?_
  refine wp rfl hC (oc_field hC (.tmp rfl) fld_25_3 (by decide) (by first | exact .p (Nat.zero_add _) | exact .p rfl | exact .rp (by decide)) rfl rfl) ?_
  refine wp rfl hC (oc_load hC (.tmp rfl) (by first | exact .p rfl | exact .rp) shp_3 (by exact (unit_ni hid)) rfl rfl) ?_
  refine wp rfl hC (ox_build (out' := noteX id x v i) hC (.cons (.tmp rfl) (.cons (.tmp rfl) (.cons (.tmp rfl) (.cons (.tmp rfl) .nil)))) zero_31 bld_31 (fill_note rfl rfl rfl rfl hid) (by unfold noteX; rfl) rfl rfl) ?_
  refine wp rfl hC (ox_store (bk' := .blk 31 (noteX id x v i)) hC (.tmp rfl) (.tmp rfl) rfl shp_31 flat_noteX (by rw [cells_ag, length_noteX hid]) (by show _ ≤ (noteX _ _ _ _).length; rw [length_noteX rfl]; decide) (put_nall rfl hid) (by first | exact .here | exact .s1 rfl | exact .s2 rfl rfl | exact .s3 rfl rfl rfl | exact .s4 rfl rfl rfl rfl | exact .s5 rfl rfl rfl rfl rfl | exact .s6 rfl rfl rfl rfl rfl rfl | exact .s7 rfl rfl rfl rfl rfl rfl rfl | exact .s8 rfl rfl rfl rfl rfl rfl rfl rfl) rfl) ?_
  refine WL_nil ?_
  refine W_ret ?_
  exact fin0 (.cons (.cell rfl (.p rfl) shp_31 (unit_nall hid)) .nil) rfl (by simp)
set_option maxRecDepth 20000 in
set_option maxHeartbeats 4000000 in
theorem rnb_c (id : List Int) (x v i : Int) (hid : id.length = 16) (bid : B8 id) (hR : RightN x v i) : FnC Tryd.prog 14 [] [.ag (noteX id x v i)] [] [(0, .row 5 1 (nB id x v i).length (I .u8 (nB id x v i)))] (.row 0) := by
  have hRR := hR
  obtain ⟨g1, g2, g3, g4, g5, g6⟩ := hR
  have p1 := length_putV7 x.toNat
  have p2 := length_putV7 v.toNat
  have p3 := length_putV7 i.toNat
  have hle := length_nE (id := id) (x := x) (v := v) (i := i)
  have hll := length_nL (id := id) (x := x) (v := v) (i := i)
  have hlb := length_nB (x := x) (v := v) (i := i) hid
  have hl41 := nL_le (x := x) (v := v) (i := i) hid
  have be := B8_nE bid hRR
  have bl := B8_nL bid hRR
  have hcr := crcS_lt be
  have hd2 : (nE id x v i) ++ fixL (crcS (nE id x v i)) 4 = (nL id x v i) := by unfold nL; rfl
  have he4 : id ++ putV x.toNat ++ putV v.toNat ++ putV i.toNat = (nE id x v i) := by unfold nE; rfl
  have hnb : putV (nL id x v i).length ++ (nL id x v i) = (nB id x v i) := by unfold nB; rfl
  have hnn : (putV (nL id x v i).length).length + (nL id x v i).length = (nB id x v i).length := by unfold nB; rw [List.length_append]
  refine FnC.introR (N0 := 0) (T := 39) (E := [(0, .ag (noteX id x v i))]) Tryd.func14 rfl (by decide) mix rfl rfl rfl (by simp) rfl ⟨(by first | exact inSL_I _ | trivial | simp), trivial⟩ (by simp) (by
        intro S ha hr hw
        have s0 : S 0 := hw 0 (by first | (simp; done) | (show some _ ≠ none; simp)) (by first | rfl | simp)
        refine ⟨by first | exact inSL_I _ | simp [s0], fun k b hm => ?_⟩
        simp only [List.mem_cons, Prod.mk.injEq, List.not_mem_nil, or_false] at hm
        rcases hm with ⟨rfl, rfl⟩
        · exact ⟨s0, by first | exact inSL_I _ | simp [s0]⟩) (fun F n0 X w ρ hC hro => ?_)
  refine wsr ?_
  refine wp rfl hC (ox_box hC (.tmp rfl) flat_noteX (by first | exact cells_ag | rfl) rfl rfl) ?_
  refine wp rfl hC (oc_assign hC .cnils rfl rfl) ?_
  refine WL_nil ?_
  refine wsr ?_
  refine wp rfl hC (oc_assign hC .cnils rfl rfl) ?_
  refine WL_nil ?_
  refine W_seq ?_
  refine wsr ?_
  refine wp rfl hC (oc_assign hC .cint rfl rfl) ?_
  refine WL_nil ?_
  refine W_blk ?_
  refine W_weak (weak_nil (t := 3) (e := 5) (sz := 1) rfl) ?_
  refine W_loopW (fun (ζ : Nat) => ⟨2, [(1, .p 0 0), (2, .nils), (3, .row 1), (4, .i .i64 ζ)], [(0, .blk 31 (noteX id x v i)), (1, .row 5 1 ζ (I .u8 (id.take ζ)))]⟩) (fun ζ => ζ ≤ 16) (fun ζ => 16 - ζ) (0) (Nat.zero_le _) (weak (fun k => k) (.cons rfl (by first | rfl | simp) (by show _ < _; decide) (.cons rfl (by first | rfl | simp) trivial (.cons rfl (by first | rfl | simp) (by show _ < _; decide) (.cons rfl rfl trivial .nil)))) (.cons rfl ren_noteB rfl (by first | exact inSL_I _ | simp) (.cons rfl (renRow (l' := []) rfl rfl) rfl (by first | exact inSL_I _ | simp) .nil)) rfl rfl rfl) ?_
  intro j hR
  replace hR : j ≤ 16 := hR
  first | show W _ _ _ ⟨2, [(1, .p 0 0), (2, .nils), (3, .row 1), (4, .i .i64 j)], [(0, .blk 31 (noteX id x v i)), (1, .row 5 1 j (I .u8 (id.take j)))]⟩ | skip
  refine W_seq ?_
  refine wsr ?_
  refine wp rfl hC (oc_move hC (.tmp rfl) rfl rfl) ?_
  refine wp rfl hC (ox_cmp hC rfl (.tmp rfl) .cint rfl rfl rfl) ?_
  refine WL_nil ?_
  refine W_cond rfl (by decide) (fun hc => ?_) (fun hc => ?_)
  ·
    replace hc := lss_t hc
    
    refine W_skip ?_
    refine W_seq ?_
    refine W_blk ?_
    refine W_region ?_
    refine wp rfl hC (oc_move hC (.tmp rfl) rfl rfl) ?_
    refine wp rfl hC (oc_move hC (.tmp rfl) rfl rfl) ?_
    refine wp rfl hC (oc_field hC (.tmp rfl) fld_31_0 (by decide) (by first | exact .p (Nat.zero_add _) | exact .p rfl | exact .rp (by decide)) rfl rfl) ?_
    refine wp rfl hC (ox_indexA hC (j := j) (.tmp rfl) (.tmp rfl) idx_23 (by first | rfl | omega | (simp; omega)) (by omega) (by first | exact Nat.mul_one _ | rfl) (by first | exact .p (Nat.zero_add _) | exact .p rfl | exact .rp (by first | omega | (simp <;> fail) | (simp; omega))) rfl rfl) ?_
    refine wp rfl hC (oc_load hC (.tmp rfl) (by first | exact .p rfl | exact .rp) shp_5 (by exact (unit_nid0 hid (by omega))) rfl rfl) ?_
    refine wp rfl hC (ox_lit hC (.cons (.tmp rfl) .nil) Tryd.underlying22 cells_5 zero_5 rfl (by decide) rfl rfl (by first | rfl | simp) rfl rfl) ?_
    refine wp rfl hC (ox_append hC (.tmp rfl) (.tmp rfl) (by first | exact .row rfl rfl (by first | exact .here rfl | exact .s1 rfl rfl | exact .s2 rfl rfl rfl | exact .s3 rfl rfl rfl rfl | exact .s4 rfl rfl rfl rfl rfl | exact .s5 rfl rfl rfl rfl rfl rfl | exact .s6 rfl rfl rfl rfl rfl rfl rfl | exact .s7 rfl rfl rfl rfl rfl rfl rfl rfl | exact .s8 rfl rfl rfl rfl rfl rfl rfl rfl rfl) | exact .nils) (by first | exact .row rfl | exact .vs | exact .sl rfl | exact .nils) (by first | exact hro_nil | exact hro_one rfl) Tryd.underlying22 cells_5 bytes_5 zero_5 rfl (by decide) (by first | (simp <;> fail) | (simp; omega)) (by first | rfl | exact one_takeI) (by first | rfl | (simp <;> fail) | (simp; omega)) app_1 (by simp only [maxLen]; omega) (by omega) rfl rfl) ?_
    refine wp rfl hC (oc_assign hC (.tmp rfl) rfl rfl) ?_
    refine WL_nil ?_
    refine W_region ?_
    refine wp rfl hC (oc_move hC (.tmp rfl) rfl rfl) ?_
    refine wp rfl hC (oc_bin hC rfl (.tmp rfl) .cint (by first | exact i64_add (by omega) | rfl) rfl rfl) ?_
    refine wp rfl hC (oc_assign hC (.tmp rfl) rfl rfl) ?_
    refine WL_nil ?_
    exact ⟨(j + 1), (by omega), (weak (fun k => bif Nat.beq k 1 then 2 else k) (.cons rfl (by first | rfl | simp) (by show _ < _; decide) (.cons rfl (by first | rfl | simp) trivial (.cons rfl (by first | rfl | simp) (by show _ < _; decide) (.cons rfl (by first | rfl | exact congrArg (AV.i _) (by omega) | exact congrArg (AV.i _) (by simp; omega)) trivial .nil)))) (.cons rfl ren_noteB rfl (by first | exact inSL_I _ | simp) (.cons rfl (renRow rfl (by rw [List.take_succ_eq_append_getElem (by omega), List.getD_eq_getElem?_getD, List.getElem?_eq_getElem (by omega)]; rfl)) rfl (by first | exact inSL_I _ | simp) .nil)) rfl rfl rfl), (by omega)⟩
  ·
    replace hc := lss_f hc
    obtain rfl : j = 16 := by omega
    rw [List.take_of_length_le (show id.length ≤ 16 by omega)]
    refine W_exit ?_
    refine wsr ?_
    refine wp rfl hC (oc_move hC (.tmp rfl) rfl rfl) ?_
    refine wp rfl hC (oc_field hC (.tmp rfl) fld_31_1 (by decide) (by first | exact .p (Nat.zero_add _) | exact .p rfl | exact .rp (by decide)) rfl rfl) ?_
    refine wp rfl hC (oc_load hC (.tmp rfl) (by first | exact .p rfl | exact .rp) shp_3 (by exact (unit_nx hid)) rfl rfl) ?_
    refine wp rfl hC (oc_callN hC (.cons (.tmp rfl) .nil) (.cons1 (.free (by first | exact inSL_I _ | simp)) (.same (by first | exact inSL_I _ | simp))) (rput_c x.toNat x (.inl ⟨by omega, by omega⟩)) glob_nil (by first | exact inSL_I _ | simp) rfl (by first | exact .inl rfl | exact .inr ⟨by simp, novsL_I _⟩ | exact .inr ⟨by simp, by simp⟩) rfl rfl) ?_
    refine wp rfl hC (ox_append hC (.tmp rfl) (.tmp rfl) (by first | exact .row rfl rfl (by first | exact .here rfl | exact .s1 rfl rfl | exact .s2 rfl rfl rfl | exact .s3 rfl rfl rfl rfl | exact .s4 rfl rfl rfl rfl rfl | exact .s5 rfl rfl rfl rfl rfl rfl | exact .s6 rfl rfl rfl rfl rfl rfl rfl | exact .s7 rfl rfl rfl rfl rfl rfl rfl rfl | exact .s8 rfl rfl rfl rfl rfl rfl rfl rfl rfl) | exact .nils) (by first | exact .row rfl | exact .vs | exact .sl rfl | exact .nils) (by first | exact hro_nil | exact hro_one rfl) Tryd.underlying22 cells_5 bytes_5 zero_5 rfl (by decide) (by rw [length_I]; omega) (by first | rfl | exact one_takeI) (by first | rfl | (simp <;> fail) | (simp; omega)) (app_I rfl) (by simp only [maxLen]; omega) (by omega) rfl rfl) ?_
    refine wp rfl hC (oc_assign hC (.tmp rfl) rfl rfl) ?_
    refine WL_nil ?_
    refine wsr ?_
    refine wp rfl hC (oc_move hC (.tmp rfl) rfl rfl) ?_
    refine wp rfl hC (oc_field hC (.tmp rfl) fld_31_2 (by decide) (by first | exact .p (Nat.zero_add _) | exact .p rfl | exact .rp (by decide)) rfl rfl) ?_
    refine wp rfl hC (oc_load hC (.tmp rfl) (by first | exact .p rfl | exact .rp) shp_3 (by exact (unit_nv hid)) rfl rfl) ?_
    refine wp rfl hC (oc_callN hC (.cons (.tmp rfl) .nil) (.cons1 (.free (by first | exact inSL_I _ | simp)) (.same (by first | exact inSL_I _ | simp))) (rput_c v.toNat v (.inl ⟨by omega, by omega⟩)) glob_nil (by first | exact inSL_I _ | simp) rfl (by first | exact .inl rfl | exact .inr ⟨by simp, novsL_I _⟩ | exact .inr ⟨by simp, by simp⟩) rfl rfl) ?_
    refine wp rfl hC (ox_append hC (.tmp rfl) (.tmp rfl) (by first | exact .row rfl rfl (by first | exact .here rfl | exact .s1 rfl rfl | exact .s2 rfl rfl rfl | exact .s3 rfl rfl rfl rfl | exact .s4 rfl rfl rfl rfl rfl | exact .s5 rfl rfl rfl rfl rfl rfl | exact .s6 rfl rfl rfl rfl rfl rfl rfl | exact .s7 rfl rfl rfl rfl rfl rfl rfl rfl | exact .s8 rfl rfl rfl rfl rfl rfl rfl rfl rfl) | exact .nils) (by first | exact .row rfl | exact .vs | exact .sl rfl | exact .nils) (by first | exact hro_nil | exact hro_one rfl) Tryd.underlying22 cells_5 bytes_5 zero_5 rfl (by decide) (by rw [length_I]; omega) (by first | rfl | exact one_takeI) (by first | rfl | (simp <;> fail) | (simp; omega)) (app_I rfl) (by simp only [maxLen]; omega) (by omega) rfl rfl) ?_
    refine wp rfl hC (oc_assign hC (.tmp rfl) rfl rfl) ?_
    refine WL_nil ?_
    refine wsr ?_
    refine wp rfl hC (oc_move hC (.tmp rfl) rfl rfl) ?_
    refine wp rfl hC (oc_field hC (.tmp rfl) fld_31_3 (by decide) (by first | exact .p (Nat.zero_add _) | exact .p rfl | exact .rp (by decide)) rfl rfl) ?_
    refine wp rfl hC (oc_load hC (.tmp rfl) (by first | exact .p rfl | exact .rp) shp_3 (by exact (unit_ni hid)) rfl rfl) ?_
    refine wp rfl hC (oc_callN hC (.cons (.tmp rfl) .nil) (.cons1 (.free (by first | exact inSL_I _ | simp)) (.same (by first | exact inSL_I _ | simp))) (rput_c i.toNat i (.inl ⟨by omega, by omega⟩)) glob_nil (by first | exact inSL_I _ | simp) rfl (by first | exact .inl rfl | exact .inr ⟨by simp, novsL_I _⟩ | exact .inr ⟨by simp, by simp⟩) rfl rfl) ?_
    refine wp rfl hC (ox_append (n' := (nE id x v i).length) (cs' := I .u8 (nE id x v i)) hC (.tmp rfl) (.tmp rfl) (by first | exact .row rfl rfl (by first | exact .here rfl | exact .s1 rfl rfl | exact .s2 rfl rfl rfl | exact .s3 rfl rfl rfl rfl | exact .s4 rfl rfl rfl rfl rfl | exact .s5 rfl rfl rfl rfl rfl rfl | exact .s6 rfl rfl rfl rfl rfl rfl rfl | exact .s7 rfl rfl rfl rfl rfl rfl rfl rfl | exact .s8 rfl rfl rfl rfl rfl rfl rfl rfl rfl) | exact .nils) (by first | exact .row rfl | exact .vs | exact .sl rfl | exact .nils) (by first | exact hro_nil | exact hro_one rfl) Tryd.underlying22 cells_5 bytes_5 zero_5 rfl (by decide) (by rw [length_I]; omega) (by first | rfl | exact one_takeI) (by omega) ((app_I rfl).trans (by rw [he4])) (by simp only [maxLen]; omega) (by omega) rfl rfl) ?_
    refine wp rfl hC (oc_assign hC (.tmp rfl) rfl rfl) ?_
    refine WL_nil ?_
    refine wsr ?_
    refine wp rfl hC (oc_move hC (.tmp rfl) rfl rfl) ?_
    refine wp rfl hC (oc_move hC (.tmp rfl) rfl rfl) ?_
    refine wp rfl hC (oc_call hC (.cons (.tmp rfl) .nil) (.row rfl (.same (inSL_I _)) (.same trivial)) (rsum_c (nE id x v i).length (nE id x v i) rfl be (by omega)) glob_nil (by first | exact inSL_I _ | simp) (by first | exact .inl rfl | exact .inr (by simp)) rfl rfl) ?_
    refine wp rfl hC (oc_conv hC (.tmp rfl) rfl Tryd.underlying51 (r := ((crcS (nE id x v i) : Nat) : Int)) (u64_conv (by omega)) rfl rfl) ?_
    refine wp rfl hC (oc_callN hC (.cons (.tmp rfl) (.cons .cint .nil)) (.cons1 (.free (by first | exact inSL_I _ | simp)) (.cons1 (.free (by first | exact inSL_I _ | simp)) (.same (by first | exact inSL_I _ | simp)))) (rfix_c (crcS (nE id x v i)) 4 4 (by omega) (.inl ⟨rfl, by decide⟩)) glob_nil (by first | exact inSL_I _ | simp) rfl (by first | exact .inl rfl | exact .inr ⟨by simp, novsL_I _⟩ | exact .inr ⟨by simp, by simp⟩) rfl rfl) ?_
    refine wp rfl hC (ox_append (n' := (nL id x v i).length) (cs' := I .u8 (nL id x v i)) hC (.tmp rfl) (.tmp rfl) (by first | exact .row rfl rfl (by first | exact .here rfl | exact .s1 rfl rfl | exact .s2 rfl rfl rfl | exact .s3 rfl rfl rfl rfl | exact .s4 rfl rfl rfl rfl rfl | exact .s5 rfl rfl rfl rfl rfl rfl | exact .s6 rfl rfl rfl rfl rfl rfl rfl | exact .s7 rfl rfl rfl rfl rfl rfl rfl rfl | exact .s8 rfl rfl rfl rfl rfl rfl rfl rfl rfl) | exact .nils) (by first | exact .row rfl | exact .vs | exact .sl rfl | exact .nils) (by first | exact hro_nil | exact hro_one rfl) Tryd.underlying22 cells_5 bytes_5 zero_5 rfl (by decide) (by rw [length_I, length_fixL]; decide) (by first | rfl | exact one_takeI) (by omega) ((app_I (length_fixL _ _)).trans (by rw [hd2])) (by simp only [maxLen]; omega) (by omega) rfl rfl) ?_
    refine wp rfl hC (oc_assign hC (.tmp rfl) rfl rfl) ?_
    refine WL_nil ?_
    refine wsr ?_
    refine wp rfl hC (oc_move hC (.tmp rfl) rfl rfl) ?_
    refine wp rfl hC (oc_callN hC (.cons (.tmp rfl) .nil) (.cons1 (by first | exact .free (by first | exact inSL_I _ | simp) | exact .row rfl rfl (by first | exact inSL_I _ | simp) | exact .nils | exact .sl1 rfl (by first | exact cut_I | rfl) (by first | exact inSL_I _ | simp)) (.same (by first | exact inSL_I _ | simp))) (rputb_c (nL id x v i).length (nL id x v i) rfl (by omega)) glob_nil (by first | exact inSL_I _ | simp) rfl (by first | exact .inl rfl | exact .inr ⟨by simp, novsL_I _⟩ | exact .inr ⟨by simp, by simp⟩) rfl rfl) ?_
    rw [hnb, hnn]
    refine wp rfl hC (oc_assign hC (.tmp rfl) rfl rfl) ?_
    refine WL_nil ?_
    refine W_ret ?_
    exact fin1 (.cons (.tmp rfl) .nil) rfl rfl (inSL_I _)
theorem put_nid0 {t : TypeId} {x v i : Int} {id : List Int} {j : Nat} {c : Int} (h : j < id.length) : (Blk.blk t (noteX id x v i)).put j [.i .u8 c] = .blk t (noteX (id.set j c) x v i) := by have := put_nid (t := t) (x := x) (v := v) (i := i) (c := c) h; rwa [Nat.zero_add] at this
theorem chain_ok' {c0 : List Int} {C : Nat → List Int} {E : Nat → Int} {Y : Nat → List Int} {w : Nat} (hl : (C 0).length ≤ c0.length) (hF : ∀ i, i < w → FixS (C i) (E i) 1 (E (i + 1)) (C (i + 1)) (Y i)) (hb : B8 (C 0)) : ∀ i, i ≤ w → B8 (C i) ∧ (C i).length ≤ c0.length
  | 0, _ => ⟨hb, hl⟩
  | i + 1, hi => by
    obtain ⟨g1, g2⟩ := chain_ok' hl hF hb i (by omega)
    have hf := hF i (by omega)
    exact ⟨hf.b8 g1, Nat.le_trans hf.len g2⟩
set_option maxRecDepth 20000 in
set_option maxHeartbeats 4000000 in
theorem nreadno_c (b : List Int) (bb : B8 b) (hl : b.length ≤ 1099511627776) (eR : Int) (cR : List Int) (C : Nat → List Int) (E : Nat → Int) (Y : Nat → List Int) (D : Nat → List Int) (G V : Nat → Int) (eq : Int) (cq yq : List Int) (hB : BytesS b 0 64 eR cR (C 0)) (hE0 : E 0 = 0) (hF : ∀ j, j < 16 → FixS (C j) (E j) 1 (E (j + 1)) (C (j + 1)) (Y j)) (hD0 : D 0 = C 16) (hG0 : G 0 = E 16) (hN : ∀ j, j < 3 → NumS (D j) (G j) 1099511627775 (G (j + 1)) (D (j + 1)) (V j)) (hQ : FixS (D 3) (G 3) 4 eq cq yq) (lf ev : Int) (hlf : (eR = 0 ∧ lf = cR.length) ∨ (eR ≠ 0 ∧ lf = 0)) (hev : (eq = 0 ∧ 0 < cq.length ∧ ev = 5) ∨ (eq = 0 ∧ cq.length = 0 ∧ ev = 0) ∨ (eq ≠ 0 ∧ ev = eq)) (hno : eR ≠ 0 ∨ (eR = 0 ∧ ev ≠ 0) ∨ (eR = 0 ∧ ev = 0 ∧ ¬ RightN (V 0) (V 1) (V 2)) ∨ (eR = 0 ∧ ev = 0 ∧ RightN (V 0) (V 1) (V 2) ∧ (nL (idN Y 16 16) (V 0) (V 1) (V 2)) ≠ C 0)) : FnC Tryd.prog 26 [(1000000, .rp (I .u32 nibT))] [.vs b.length (I .u8 b)] [] [] (.tu [.ag (noteX (List.replicate 16 0) 0 0 0), .i .i64 0, .b false]) := by
  obtain ⟨f1, f2, f3, f4⟩ := hB.facts bb
  have hch := chain_ok' (c0 := C 0) (Nat.le_refl _) hF f3
  have hid := length_idN Y (Nat.le_refl 16)
  have bid := B8_idN hF hch
  have b16 := (hch 16 (Nat.le_refl _)).1
  have l16 := (hch 16 (Nat.le_refl _)).2
  have hnk := nums_ok hN (by rw [hD0]; exact b16)
  rw [hD0] at hnk
  have b3 := (hnk 3 (Nat.le_refl _)).1
  have l3 := (hnk 3 (Nat.le_refl _)).2
  have bq := hQ.b8 b3
  have lq := hQ.len
  have hv0 := (hN 0 (by decide)).nat
  have hv1 := (hN 1 (by decide)).nat
  have hv2 := (hN 2 (by decide)).nat
  refine FnC.introR (N0 := 0) (T := 70) (E := [(0, .vs b.length (I .u8 b)), (1000000, .rp (I .u32 nibT))]) Tryd.func26 rfl (by decide) mix rfl rfl rfl (by simp) rfl ⟨(by first | exact inSL_I _ | trivial | simp), trivial⟩ (by simp) (by intro S _ _ h; simp) (fun F n0 X w ρ hC hro => ?_)
  refine wsr ?_
  refine wp rfl hC (ox_alloc (cs' := noteX (List.replicate 16 0) 0 0 0) hC zero_25 (by unfold noteX; rfl) rfl rfl) ?_
  refine wp rfl hC (oc_assign hC .cint rfl rfl) ?_
  refine wp rfl hC (oc_assign hC .cbool rfl rfl) ?_
  refine WL_nil ?_
  refine wsr ?_
  refine wp rfl hC (oc_move hC (.tmp rfl) rfl rfl) ?_
  refine wp rfl hC (oc_callG (τ := fun k => bif Nat.beq k 0 then 1 else k) (N' := 2) hC .func (.cons (.tmp rfl) .nil) (.v1 (by first | exact .free (by first | exact inSL_I _ | simp) | exact .row rfl rfl (by first | exact inSL_I _ | simp) | exact .nils | exact .sl1 rfl (by first | exact cut_I | rfl) (by first | exact inSL_I _ | simp)) .end) (new_c _ b rfl hl) glob_nil mr_nil (mr_cons (by first | exact ren_blkI | exact ren_rowI | exact Blk.ren_free (by simp) _ | rfl) rfl mr_nil) rfl rd_nil rfl rfl rfl rfl (by first | exact .inl rfl | exact .inr ⟨by simp, (nv_cons (by first | exact novsL_I _ | simp) nv_nil)⟩) rfl (dst_ok rfl rfl) (fun t => setE_cons _ _ _ _)) ?_
  refine wp rfl hC (oc_assign hC (.tmp rfl) rfl rfl) ?_
  refine WL_nil ?_
  refine wsr ?_
  refine wp rfl hC (oc_move hC (.tmp rfl) rfl rfl) ?_
  refine wp rfl hC (oc_callG (τ := fun k => bif Nat.beq k 0 then 1 else k) (N' := 2) hC .func (.cons (.tmp rfl) (.cons .cint .nil)) (.own (by first | rfl | simp) (.v1 (.free (by first | exact inSL_I _ | simp)) .end)) (bytes_x b cR (C 0) 0 64 eR bb hl hB) glob_nil (mr_cons (by first | exact ren_blkI | exact ren_rowI | exact Blk.ren_free (by simp) _ | rfl) rfl mr_nil) (mr_cons (by first | exact ren_blkI | exact ren_rowI | exact Blk.ren_free (by simp) _ | rfl) rfl mr_nil) ren_vsI (rd_cons rfl rd_nil) rfl rfl rfl rfl (by first | exact .inl rfl | exact .inr ⟨by simp, (nv_cons (by first | exact novsL_I _ | simp) nv_nil)⟩) rfl (dst_ok rfl rfl) (fun t => setE_cons _ _ _ _)) ?_
  refine wp rfl hC (oc_assign hC (.tmp rfl) rfl rfl) ?_
  refine WL_nil ?_
  refine wsr ?_
  refine wp rfl hC (oc_move hC (.tmp rfl) rfl rfl) ?_
  refine wp rfl hC (oc_callG (τ := fun k => bif Nat.beq k 0 then 1 else k) (N' := 2) hC .func (.cons (.tmp rfl) .nil) (.own (by first | rfl | simp) .end) (left_c cR.length cR eR rfl f1 (by omega) lf hlf) glob_nil (mr_cons (by first | exact ren_blkI | exact ren_rowI | exact Blk.ren_free (by simp) _ | rfl) rfl mr_nil) (mr_cons (by first | exact ren_blkI | exact ren_rowI | exact Blk.ren_free (by simp) _ | rfl) rfl mr_nil) rfl (rd_cons rfl rd_nil) rfl rfl rfl rfl (by first | exact .inl rfl | exact .inr ⟨by simp, (nv_cons (by first | exact novsL_I _ | simp) nv_nil)⟩) rfl (dst_ok rfl rfl) (fun t => setE_cons _ _ _ _)) ?_
  refine wp rfl hC (oc_assign hC (.tmp rfl) rfl rfl) ?_
  refine WL_nil ?_
  refine wsr ?_
  refine wp rfl hC (oc_move hC (.tmp rfl) rfl rfl) ?_
  refine wp rfl hC (oc_callG (τ := fun k => bif Nat.beq k 0 then 2 else k) (N' := 3) hC .func (.cons (.tmp rfl) .nil) (.v1 (by first | exact .free (by first | exact inSL_I _ | simp) | exact .row rfl rfl (by first | exact inSL_I _ | simp) | exact .nils | exact .sl1 rfl (by first | exact cut_I | rfl) (by first | exact inSL_I _ | simp)) .end) (new_c _ (C 0) rfl (by omega)) glob_nil mr_nil (mr_cons (by first | exact ren_blkI | exact ren_rowI | exact Blk.ren_free (by simp) _ | rfl) rfl mr_nil) rfl rd_nil rfl rfl rfl rfl (by first | exact .inl rfl | exact .inr ⟨by simp, (nv_cons (by first | exact novsL_I _ | simp) nv_nil)⟩) rfl (dst_ok rfl rfl) (fun t => setE_cons _ _ _ _)) ?_
  refine wp rfl hC (oc_assign hC (.tmp rfl) rfl rfl) ?_
  refine WL_nil ?_
  refine wsr ?_
  refine wp rfl hC (ox_alloc (cs' := noteX (List.replicate 16 0) 0 0 0) hC zero_25 (by unfold noteX; rfl) rfl rfl) ?_
  refine WL_nil ?_
  refine W_seq ?_
  refine wsr ?_
  refine wp rfl hC (oc_move hC .cint rfl rfl) ?_
  refine WL_nil ?_
  refine W_blk ?_
  refine W_loopW (fun (ζ : Nat) => ⟨4, [(2, .p 0 0), (3, .i .i64 0), (4, .b false), (5, .p 1 0), (6, .vs (C 0).length (I .u8 (C 0))), (7, .i .i64 lf), (8, .p 2 0), (9, .p 3 0), (21, .i .i64 ζ), (1000000, .rp (I .u32 nibT))], [(0, .blk 25 (noteX (List.replicate 16 0) 0 0 0)), (1, .blk 73 [.vs cR.length (I .u8 cR), .i .i64 eR]), (2, .blk 73 [.vs (C ζ).length (I .u8 (C ζ)), .i .i64 (E ζ)]), (3, .blk 25 (noteX (idN Y 16 ζ) 0 0 0))]⟩) (fun ζ => ζ ≤ 16) (fun ζ => 16 - ζ) (0) (Nat.zero_le _) (weak (fun k => k) (.cons rfl (by first | rfl | simp) (by show _ < _; decide) (.cons rfl (by first | rfl | exact congrArg (AV.i _) (by omega) | exact congrArg (AV.i _) (by simp; omega)) trivial (.cons rfl (by first | rfl | simp) trivial (.cons rfl (by first | rfl | simp) (by show _ < _; decide) (.cons rfl ren_vsI (by first | exact inSL_I _ | simp) (.cons rfl (by first | rfl | exact congrArg (AV.i _) (by omega) | exact congrArg (AV.i _) (by simp; omega)) trivial (.cons rfl (by first | rfl | simp) (by show _ < _; decide) (.cons rfl (by first | rfl | simp) (by show _ < _; decide) (.cons rfl rfl trivial (.cons rfl (by first | exact ren_agI | exact ren_vsI | exact ren_free _ _ (by first | exact inSL_I _ | simp)) (by first | exact inSL_I _ | simp) .nil)))))))))) (.cons rfl ren_noteB rfl (by first | exact inSL_I _ | simp) (.cons rfl (Blk.ren_free (by simp) _) rfl (by first | exact inSL_I _ | simp) (.cons rfl ((Blk.ren_free (by simp) _).trans (by rw [hE0])) rfl (by first | exact inSL_I _ | simp) (.cons rfl (ren_noteB.trans (by rw [idN_zero])) rfl (by first | exact inSL_I _ | simp) .nil)))) rfl rfl rfl) ?_
  intro j hR
  replace hR : j ≤ 16 := hR
  first | show W _ _ _ ⟨4, [(2, .p 0 0), (3, .i .i64 0), (4, .b false), (5, .p 1 0), (6, .vs (C 0).length (I .u8 (C 0))), (7, .i .i64 lf), (8, .p 2 0), (9, .p 3 0), (21, .i .i64 j), (1000000, .rp (I .u32 nibT))], [(0, .blk 25 (noteX (List.replicate 16 0) 0 0 0)), (1, .blk 73 [.vs cR.length (I .u8 cR), .i .i64 eR]), (2, .blk 73 [.vs (C j).length (I .u8 (C j)), .i .i64 (E j)]), (3, .blk 25 (noteX (idN Y 16 j) 0 0 0))]⟩ | skip
  have hii := length_idN Y hR
  refine wsr ?_
  refine wp rfl hC (ox_cmp hC rfl (.tmp rfl) .cint rfl rfl rfl) ?_
  refine WL_nil ?_
  refine W_seq ?_
  refine W_cond rfl (by decide) (fun hc => ?_) (fun hc => ?_)
  ·
    replace hc := lss_t hc
    have hfi := hF j (by omega)
    have hbi := (hch j (by omega)).1
    have hli := (hch j (by omega)).2
    have hxi := hfi.val hbi
    refine W_skip ?_
    refine W_seq ?_
    refine W_blk ?_
    refine wsr ?_
    refine wp rfl hC (oc_move hC (.tmp rfl) rfl rfl) ?_
    refine wp rfl hC (oc_assign hC (.tmp rfl) rfl rfl) ?_
    refine WL_nil ?_
    refine W_region ?_
    refine wp rfl hC (oc_move hC (.tmp rfl) rfl rfl) ?_
    refine wp rfl hC (oc_move hC (.tmp rfl) rfl rfl) ?_
    refine wp rfl hC (oc_callG (τ := fun k => bif Nat.beq k 0 then 2 else k) (N' := 4) hC .func (.cons (.tmp rfl) (.cons .cint .nil)) (.own (by first | rfl | simp) (.v1 (.free (by first | exact inSL_I _ | simp)) .end)) (fixr_u (C j) (C (j + 1)) (E j) (E (j + 1)) hbi (by omega) (Y j) 1 hfi) glob_nil (mr_cons (by first | exact ren_blkI | exact ren_rowI | exact Blk.ren_free (by simp) _ | rfl) rfl mr_nil) (mr_cons (by first | exact ren_blkI | exact ren_rowI | exact Blk.ren_free (by simp) _ | rfl) rfl mr_nil) rfl (rd_cons rfl rd_nil) rfl rfl rfl rfl (by first | exact .inl rfl | exact .inr ⟨by simp, (nv_cons (by first | exact novsL_I _ | simp) nv_nil)⟩) rfl (dst_ok rfl rfl) (fun t => setE_cons _ _ _ _)) ?_
    refine wp rfl hC (oc_conv hC (.tmp rfl) rfl Tryd.underlying5 (r := (vle (Y j))) (u8_conv (by omega)) rfl rfl) ?_
    refine wp rfl hC (oc_field hC (.tmp rfl) fld_25_0 (by decide) (by first | exact .p (Nat.zero_add _) | exact .p rfl | exact .rp (by decide)) rfl rfl) ?_
    refine wp rfl hC (ox_indexA hC (j := j) (.tmp rfl) (.tmp rfl) idx_23 (by first | rfl | omega | (simp; omega)) (by omega) (by first | exact Nat.mul_one _ | rfl) (by first | exact .p (Nat.zero_add _) | exact .p rfl | exact .rp (by first | omega | (simp <;> fail) | (simp; omega))) rfl rfl) ?_
    refine wp rfl hC (ox_store (bk' := .blk 25 (noteX ((idN Y 16 j).set j (vle (Y j))) 0 0 0)) hC (.tmp rfl) (.tmp rfl) rfl shp_5 (by first | rfl | exact flat_agI) (by first | exact cells1 rfl | (rw [cells_ag, length_I]; omega) | rfl | (simp <;> fail) | (simp; omega)) (by show _ ≤ (noteX _ _ _ _).length; rw [length_noteX hii]; omega) (put_nid0 (by rw [hii]; omega)) (by first | exact .here | exact .s1 rfl | exact .s2 rfl rfl | exact .s3 rfl rfl rfl | exact .s4 rfl rfl rfl rfl | exact .s5 rfl rfl rfl rfl rfl | exact .s6 rfl rfl rfl rfl rfl rfl | exact .s7 rfl rfl rfl rfl rfl rfl rfl | exact .s8 rfl rfl rfl rfl rfl rfl rfl rfl) rfl) ?_
    refine WL_nil ?_
    refine W_region ?_
    refine wp rfl hC (oc_bin hC rfl (.tmp rfl) .cint (by first | exact i64_add (by omega) | rfl) rfl rfl) ?_
    refine wp rfl hC (oc_move hC (.tmp rfl) rfl rfl) ?_
    refine WL_nil ?_
    exact ⟨(j + 1), (by omega), (weak (fun k => k) (.cons rfl (by first | rfl | simp) (by show _ < _; decide) (.cons rfl (by first | rfl | exact congrArg (AV.i _) (by omega) | exact congrArg (AV.i _) (by simp; omega)) trivial (.cons rfl (by first | rfl | simp) trivial (.cons rfl (by first | rfl | simp) (by show _ < _; decide) (.cons rfl ren_vsI (by first | exact inSL_I _ | simp) (.cons rfl (by first | rfl | exact congrArg (AV.i _) (by omega) | exact congrArg (AV.i _) (by simp; omega)) trivial (.cons rfl (by first | rfl | simp) (by show _ < _; decide) (.cons rfl (by first | rfl | simp) (by show _ < _; decide) (.cons rfl (by first | rfl | exact congrArg (AV.i _) (by omega) | exact congrArg (AV.i _) (by simp; omega)) trivial (.cons rfl (by first | exact ren_agI | exact ren_vsI | exact ren_free _ _ (by first | exact inSL_I _ | simp)) (by first | exact inSL_I _ | simp) .nil)))))))))) (.cons rfl ren_noteB rfl (by first | exact inSL_I _ | simp) (.cons rfl (Blk.ren_free (by simp) _) rfl (by first | exact inSL_I _ | simp) (.cons rfl (Blk.ren_free (by simp) _) rfl (by first | exact inSL_I _ | simp) (.cons rfl (ren_noteB.trans (by rw [idN_set (by omega)])) rfl (by first | exact inSL_I _ | simp) .nil)))) rfl rfl rfl), (by omega)⟩
  ·
    replace hc := lss_f hc
    obtain rfl : j = 16 := by omega
    refine W_exit ?_
    refine W_seq ?_
    refine wsr ?_
    refine wp rfl hC (oc_field hC (.tmp rfl) fld_25_1 (by decide) (by first | exact .p (Nat.zero_add _) | exact .p rfl | exact .rp (by decide)) rfl rfl) ?_
    refine wp rfl hC (oc_field hC (.tmp rfl) fld_25_2 (by decide) (by first | exact .p (Nat.zero_add _) | exact .p rfl | exact .rp (by decide)) rfl rfl) ?_
    refine wp rfl hC (oc_field hC (.tmp rfl) fld_25_3 (by decide) (by first | exact .p (Nat.zero_add _) | exact .p rfl | exact .rp (by decide)) rfl rfl) ?_
    refine wp rfl hC (ox_lit hC (.cons (.tmp rfl) (.cons (.tmp rfl) (.cons (.tmp rfl) .nil))) Tryd.underlying66 cells_65 zero_65 rfl (by decide) rfl rfl (by first | rfl | simp) rfl rfl) ?_
    refine wp rfl hC (ox_len hC (.tmp rfl) (by first | exact .row rfl | exact .vs | exact .sl rfl | exact .nils) Tryd.underlying66 rfl rfl rfl) ?_
    refine wp rfl hC (oc_move hC .cint rfl rfl) ?_
    refine WL_nil ?_
    refine W_blk ?_
    refine W_loopW (fun (ζ : Nat) => ⟨4, [(2, .p 0 0), (3, .i .i64 0), (4, .b false), (5, .p 1 0), (6, .vs (C 0).length (I .u8 (C 0))), (7, .i .i64 lf), (8, .p 2 0), (9, .p 3 0), (34, .vs 3 [.p 3 16, .p 3 17, .p 3 18]), (35, .i .i64 3), (36, .i .i64 ζ), (1000000, .rp (I .u32 nibT))], [(0, .blk 25 (noteX (List.replicate 16 0) 0 0 0)), (1, .blk 73 [.vs cR.length (I .u8 cR), .i .i64 eR]), (2, .blk 73 [.vs (D ζ).length (I .u8 (D ζ)), .i .i64 (G ζ)]), (3, .blk 25 (noteX (idN Y 16 16) (pV V ζ 0) (pV V ζ 1) (pV V ζ 2)))]⟩) (fun ζ => ζ ≤ 3) (fun ζ => 3 - ζ) (0) (Nat.zero_le _) (weak (fun k => k) (.cons rfl (by first | rfl | simp) (by show _ < _; decide) (.cons rfl (by first | rfl | exact congrArg (AV.i _) (by omega) | exact congrArg (AV.i _) (by simp; omega)) trivial (.cons rfl (by first | rfl | simp) trivial (.cons rfl (by first | rfl | simp) (by show _ < _; decide) (.cons rfl ren_vsI (by first | exact inSL_I _ | simp) (.cons rfl (by first | rfl | exact congrArg (AV.i _) (by omega) | exact congrArg (AV.i _) (by simp; omega)) trivial (.cons rfl (by first | rfl | simp) (by show _ < _; decide) (.cons rfl (by first | rfl | simp) (by show _ < _; decide) (.cons rfl rfl (by simp) (.cons rfl rfl trivial (.cons rfl rfl trivial (.cons rfl (by first | exact ren_agI | exact ren_vsI | exact ren_free _ _ (by first | exact inSL_I _ | simp)) (by first | exact inSL_I _ | simp) .nil)))))))))))) (.cons rfl ren_noteB rfl (by first | exact inSL_I _ | simp) (.cons rfl (Blk.ren_free (by simp) _) rfl (by first | exact inSL_I _ | simp) (.cons rfl ((Blk.ren_free (by simp) _).trans (by rw [hD0, hG0])) rfl (by first | exact inSL_I _ | simp) (.cons rfl (ren_noteB.trans (by simp [pV_zero])) rfl (by first | exact inSL_I _ | simp) .nil)))) rfl rfl rfl) ?_
    intro j hR
    replace hR : j ≤ 3 := hR
    first | show W _ _ _ ⟨4, [(2, .p 0 0), (3, .i .i64 0), (4, .b false), (5, .p 1 0), (6, .vs (C 0).length (I .u8 (C 0))), (7, .i .i64 lf), (8, .p 2 0), (9, .p 3 0), (34, .vs 3 [.p 3 16, .p 3 17, .p 3 18]), (35, .i .i64 3), (36, .i .i64 j), (1000000, .rp (I .u32 nibT))], [(0, .blk 25 (noteX (List.replicate 16 0) 0 0 0)), (1, .blk 73 [.vs cR.length (I .u8 cR), .i .i64 eR]), (2, .blk 73 [.vs (D j).length (I .u8 (D j)), .i .i64 (G j)]), (3, .blk 25 (noteX (idN Y 16 16) (pV V j 0) (pV V j 1) (pV V j 2)))]⟩ | skip
    refine wsr ?_
    refine wp rfl hC (ox_cmp hC rfl (.tmp rfl) (.tmp rfl) rfl rfl rfl) ?_
    refine WL_nil ?_
    refine W_seq ?_
    refine W_cond rfl (by decide) (fun hc => ?_) (fun hc => ?_)
    ·
      replace hc := lss_t hc
      
      refine W_skip ?_
      refine W_seq ?_
      refine W_blk ?_
      refine W_seq ?_
      rcases (show j = 0 ∨ j = 1 ∨ j = 2 by omega) with hj | hj | hj
      ·
        refine W_region ?_
        refine wp rfl hC (ox_indexS hC (j := 0) (.tmp rfl) (.tmp rfl) idx_66 (by omega) (by first | exact Nat.mul_one _ | rfl) (by first | exact .row rfl | exact .sl (Nat.zero_add _) | exact .sl rfl | exact .vs (by first | omega | (simp <;> fail) | (simp; omega))) (by decide) rfl rfl) ?_
        refine wp rfl hC (oc_load hC (v := .p 3 16) (.tmp rfl) (by first | exact .p rfl | exact .rp) shp_65 (by exact (unit_c rfl (by simp))) rfl rfl) ?_
        refine wp rfl hC (oc_assign hC (.tmp rfl) rfl rfl) ?_
        refine WL_nil ?_
        refine W_region ?_
        refine wp rfl hC (oc_move hC (.tmp rfl) rfl rfl) ?_
        refine wp rfl hC (oc_move hC (.tmp rfl) rfl rfl) ?_
        refine wp rfl hC (oc_callG (τ := fun k => bif Nat.beq k 0 then 2 else k) (N' := 4) hC .func (.cons (.tmp rfl) (.cons .cint .nil)) (.own (by first | rfl | simp) (.v1 (.free (by first | exact inSL_I _ | simp)) .end)) (num_u (D j) (D (j + 1)) (G j) (G (j + 1)) (hnk j (by omega)).1 (by have := (hnk j (by omega)).2; omega) 1099511627775 (V j) (hN j (by omega))) glob_nil (mr_cons (by first | exact ren_blkI | exact ren_rowI | exact Blk.ren_free (by simp) _ | rfl) rfl mr_nil) (mr_cons (by first | exact ren_blkI | exact ren_rowI | exact Blk.ren_free (by simp) _ | rfl) rfl mr_nil) rfl (rd_cons rfl rd_nil) rfl rfl rfl rfl (by first | exact .inl rfl | exact .inr ⟨by simp, (nv_cons (by first | exact novsL_I _ | simp) nv_nil)⟩) rfl (dst_ok rfl rfl) (fun t => setE_cons _ _ _ _)) ?_
        refine wp rfl hC (oc_nilCheck hC (.tmp rfl) rfl rfl) ?_
        refine wp rfl hC (ox_store (bk' := .blk 25 (noteX (idN Y 16 16) (V j) (pV V j 1) (pV V j 2))) hC (.tmp rfl) (.tmp rfl) rfl shp_3 (by first | rfl | exact flat_agI) (by first | exact cells1 rfl | (rw [cells_ag, length_I]; omega) | rfl | (simp <;> fail) | (simp; omega)) (by show _ ≤ (noteX _ _ _ _).length; rw [length_noteX hid]; decide) (put_nx hid) (by first | exact .here | exact .s1 rfl | exact .s2 rfl rfl | exact .s3 rfl rfl rfl | exact .s4 rfl rfl rfl rfl | exact .s5 rfl rfl rfl rfl rfl | exact .s6 rfl rfl rfl rfl rfl rfl | exact .s7 rfl rfl rfl rfl rfl rfl rfl | exact .s8 rfl rfl rfl rfl rfl rfl rfl rfl) rfl) ?_
        refine WL_nil ?_
        refine W_region ?_
        refine wp rfl hC (oc_bin hC rfl (.tmp rfl) .cint (by first | exact i64_add (by omega) | rfl) rfl rfl) ?_
        refine wp rfl hC (oc_move hC (.tmp rfl) rfl rfl) ?_
        refine WL_nil ?_
        exact ⟨(j + 1), (by omega), (weak (fun k => k) (.cons rfl (by first | rfl | simp) (by show _ < _; decide) (.cons rfl (by first | rfl | exact congrArg (AV.i _) (by omega) | exact congrArg (AV.i _) (by simp; omega)) trivial (.cons rfl (by first | rfl | simp) trivial (.cons rfl (by first | rfl | simp) (by show _ < _; decide) (.cons rfl ren_vsI (by first | exact inSL_I _ | simp) (.cons rfl (by first | rfl | exact congrArg (AV.i _) (by omega) | exact congrArg (AV.i _) (by simp; omega)) trivial (.cons rfl (by first | rfl | simp) (by show _ < _; decide) (.cons rfl (by first | rfl | simp) (by show _ < _; decide) (.cons rfl rfl (by simp) (.cons rfl (by first | rfl | exact congrArg (AV.i _) (by omega) | exact congrArg (AV.i _) (by simp; omega)) trivial (.cons rfl (by first | rfl | exact congrArg (AV.i _) (by omega) | exact congrArg (AV.i _) (by simp; omega)) trivial (.cons rfl (by first | exact ren_agI | exact ren_vsI | exact ren_free _ _ (by first | exact inSL_I _ | simp)) (by first | exact inSL_I _ | simp) .nil)))))))))))) (.cons rfl ren_noteB rfl (by first | exact inSL_I _ | simp) (.cons rfl (Blk.ren_free (by simp) _) rfl (by first | exact inSL_I _ | simp) (.cons rfl (Blk.ren_free (by simp) _) rfl (by first | exact inSL_I _ | simp) (.cons rfl (ren_noteB.trans (by unfold pV; simp [hj])) rfl (by first | exact inSL_I _ | simp) .nil)))) rfl rfl rfl), (by omega)⟩
      ·
        refine W_region ?_
        refine wp rfl hC (ox_indexS hC (j := 1) (.tmp rfl) (.tmp rfl) idx_66 (by omega) (by first | exact Nat.mul_one _ | rfl) (by first | exact .row rfl | exact .sl (Nat.zero_add _) | exact .sl rfl | exact .vs (by first | omega | (simp <;> fail) | (simp; omega))) (by decide) rfl rfl) ?_
        refine wp rfl hC (oc_load hC (v := .p 3 17) (.tmp rfl) (by first | exact .p rfl | exact .rp) shp_65 (by exact (unit_c rfl (by simp))) rfl rfl) ?_
        refine wp rfl hC (oc_assign hC (.tmp rfl) rfl rfl) ?_
        refine WL_nil ?_
        refine W_region ?_
        refine wp rfl hC (oc_move hC (.tmp rfl) rfl rfl) ?_
        refine wp rfl hC (oc_move hC (.tmp rfl) rfl rfl) ?_
        refine wp rfl hC (oc_callG (τ := fun k => bif Nat.beq k 0 then 2 else k) (N' := 4) hC .func (.cons (.tmp rfl) (.cons .cint .nil)) (.own (by first | rfl | simp) (.v1 (.free (by first | exact inSL_I _ | simp)) .end)) (num_u (D j) (D (j + 1)) (G j) (G (j + 1)) (hnk j (by omega)).1 (by have := (hnk j (by omega)).2; omega) 1099511627775 (V j) (hN j (by omega))) glob_nil (mr_cons (by first | exact ren_blkI | exact ren_rowI | exact Blk.ren_free (by simp) _ | rfl) rfl mr_nil) (mr_cons (by first | exact ren_blkI | exact ren_rowI | exact Blk.ren_free (by simp) _ | rfl) rfl mr_nil) rfl (rd_cons rfl rd_nil) rfl rfl rfl rfl (by first | exact .inl rfl | exact .inr ⟨by simp, (nv_cons (by first | exact novsL_I _ | simp) nv_nil)⟩) rfl (dst_ok rfl rfl) (fun t => setE_cons _ _ _ _)) ?_
        refine wp rfl hC (oc_nilCheck hC (.tmp rfl) rfl rfl) ?_
        refine wp rfl hC (ox_store (bk' := .blk 25 (noteX (idN Y 16 16) (pV V j 0) (V j) (pV V j 2))) hC (.tmp rfl) (.tmp rfl) rfl shp_3 (by first | rfl | exact flat_agI) (by first | exact cells1 rfl | (rw [cells_ag, length_I]; omega) | rfl | (simp <;> fail) | (simp; omega)) (by show _ ≤ (noteX _ _ _ _).length; rw [length_noteX hid]; decide) (put_nv hid) (by first | exact .here | exact .s1 rfl | exact .s2 rfl rfl | exact .s3 rfl rfl rfl | exact .s4 rfl rfl rfl rfl | exact .s5 rfl rfl rfl rfl rfl | exact .s6 rfl rfl rfl rfl rfl rfl | exact .s7 rfl rfl rfl rfl rfl rfl rfl | exact .s8 rfl rfl rfl rfl rfl rfl rfl rfl) rfl) ?_
        refine WL_nil ?_
        refine W_region ?_
        refine wp rfl hC (oc_bin hC rfl (.tmp rfl) .cint (by first | exact i64_add (by omega) | rfl) rfl rfl) ?_
        refine wp rfl hC (oc_move hC (.tmp rfl) rfl rfl) ?_
        refine WL_nil ?_
        exact ⟨(j + 1), (by omega), (weak (fun k => k) (.cons rfl (by first | rfl | simp) (by show _ < _; decide) (.cons rfl (by first | rfl | exact congrArg (AV.i _) (by omega) | exact congrArg (AV.i _) (by simp; omega)) trivial (.cons rfl (by first | rfl | simp) trivial (.cons rfl (by first | rfl | simp) (by show _ < _; decide) (.cons rfl ren_vsI (by first | exact inSL_I _ | simp) (.cons rfl (by first | rfl | exact congrArg (AV.i _) (by omega) | exact congrArg (AV.i _) (by simp; omega)) trivial (.cons rfl (by first | rfl | simp) (by show _ < _; decide) (.cons rfl (by first | rfl | simp) (by show _ < _; decide) (.cons rfl rfl (by simp) (.cons rfl (by first | rfl | exact congrArg (AV.i _) (by omega) | exact congrArg (AV.i _) (by simp; omega)) trivial (.cons rfl (by first | rfl | exact congrArg (AV.i _) (by omega) | exact congrArg (AV.i _) (by simp; omega)) trivial (.cons rfl (by first | exact ren_agI | exact ren_vsI | exact ren_free _ _ (by first | exact inSL_I _ | simp)) (by first | exact inSL_I _ | simp) .nil)))))))))))) (.cons rfl ren_noteB rfl (by first | exact inSL_I _ | simp) (.cons rfl (Blk.ren_free (by simp) _) rfl (by first | exact inSL_I _ | simp) (.cons rfl (Blk.ren_free (by simp) _) rfl (by first | exact inSL_I _ | simp) (.cons rfl (ren_noteB.trans (by unfold pV; simp [hj])) rfl (by first | exact inSL_I _ | simp) .nil)))) rfl rfl rfl), (by omega)⟩
      ·
        refine W_region ?_
        refine wp rfl hC (ox_indexS hC (j := 2) (.tmp rfl) (.tmp rfl) idx_66 (by omega) (by first | exact Nat.mul_one _ | rfl) (by first | exact .row rfl | exact .sl (Nat.zero_add _) | exact .sl rfl | exact .vs (by first | omega | (simp <;> fail) | (simp; omega))) (by decide) rfl rfl) ?_
        refine wp rfl hC (oc_load hC (v := .p 3 18) (.tmp rfl) (by first | exact .p rfl | exact .rp) shp_65 (by exact (unit_c rfl (by simp))) rfl rfl) ?_
        refine wp rfl hC (oc_assign hC (.tmp rfl) rfl rfl) ?_
        refine WL_nil ?_
        refine W_region ?_
        refine wp rfl hC (oc_move hC (.tmp rfl) rfl rfl) ?_
        refine wp rfl hC (oc_move hC (.tmp rfl) rfl rfl) ?_
        refine wp rfl hC (oc_callG (τ := fun k => bif Nat.beq k 0 then 2 else k) (N' := 4) hC .func (.cons (.tmp rfl) (.cons .cint .nil)) (.own (by first | rfl | simp) (.v1 (.free (by first | exact inSL_I _ | simp)) .end)) (num_u (D j) (D (j + 1)) (G j) (G (j + 1)) (hnk j (by omega)).1 (by have := (hnk j (by omega)).2; omega) 1099511627775 (V j) (hN j (by omega))) glob_nil (mr_cons (by first | exact ren_blkI | exact ren_rowI | exact Blk.ren_free (by simp) _ | rfl) rfl mr_nil) (mr_cons (by first | exact ren_blkI | exact ren_rowI | exact Blk.ren_free (by simp) _ | rfl) rfl mr_nil) rfl (rd_cons rfl rd_nil) rfl rfl rfl rfl (by first | exact .inl rfl | exact .inr ⟨by simp, (nv_cons (by first | exact novsL_I _ | simp) nv_nil)⟩) rfl (dst_ok rfl rfl) (fun t => setE_cons _ _ _ _)) ?_
        refine wp rfl hC (oc_nilCheck hC (.tmp rfl) rfl rfl) ?_
        refine wp rfl hC (ox_store (bk' := .blk 25 (noteX (idN Y 16 16) (pV V j 0) (pV V j 1) (V j))) hC (.tmp rfl) (.tmp rfl) rfl shp_3 (by first | rfl | exact flat_agI) (by first | exact cells1 rfl | (rw [cells_ag, length_I]; omega) | rfl | (simp <;> fail) | (simp; omega)) (by show _ ≤ (noteX _ _ _ _).length; rw [length_noteX hid]; decide) (put_ni hid) (by first | exact .here | exact .s1 rfl | exact .s2 rfl rfl | exact .s3 rfl rfl rfl | exact .s4 rfl rfl rfl rfl | exact .s5 rfl rfl rfl rfl rfl | exact .s6 rfl rfl rfl rfl rfl rfl | exact .s7 rfl rfl rfl rfl rfl rfl rfl | exact .s8 rfl rfl rfl rfl rfl rfl rfl rfl) rfl) ?_
        refine WL_nil ?_
        refine W_region ?_
        refine wp rfl hC (oc_bin hC rfl (.tmp rfl) .cint (by first | exact i64_add (by omega) | rfl) rfl rfl) ?_
        refine wp rfl hC (oc_move hC (.tmp rfl) rfl rfl) ?_
        refine WL_nil ?_
        exact ⟨(j + 1), (by omega), (weak (fun k => k) (.cons rfl (by first | rfl | simp) (by show _ < _; decide) (.cons rfl (by first | rfl | exact congrArg (AV.i _) (by omega) | exact congrArg (AV.i _) (by simp; omega)) trivial (.cons rfl (by first | rfl | simp) trivial (.cons rfl (by first | rfl | simp) (by show _ < _; decide) (.cons rfl ren_vsI (by first | exact inSL_I _ | simp) (.cons rfl (by first | rfl | exact congrArg (AV.i _) (by omega) | exact congrArg (AV.i _) (by simp; omega)) trivial (.cons rfl (by first | rfl | simp) (by show _ < _; decide) (.cons rfl (by first | rfl | simp) (by show _ < _; decide) (.cons rfl rfl (by simp) (.cons rfl (by first | rfl | exact congrArg (AV.i _) (by omega) | exact congrArg (AV.i _) (by simp; omega)) trivial (.cons rfl (by first | rfl | exact congrArg (AV.i _) (by omega) | exact congrArg (AV.i _) (by simp; omega)) trivial (.cons rfl (by first | exact ren_agI | exact ren_vsI | exact ren_free _ _ (by first | exact inSL_I _ | simp)) (by first | exact inSL_I _ | simp) .nil)))))))))))) (.cons rfl ren_noteB rfl (by first | exact inSL_I _ | simp) (.cons rfl (Blk.ren_free (by simp) _) rfl (by first | exact inSL_I _ | simp) (.cons rfl (Blk.ren_free (by simp) _) rfl (by first | exact inSL_I _ | simp) (.cons rfl (ren_noteB.trans (by unfold pV; simp [hj])) rfl (by first | exact inSL_I _ | simp) .nil)))) rfl rfl rfl), (by omega)⟩
    ·
      replace hc := lss_f hc
      obtain rfl : j = 3 := by omega
      rw [show pV V 3 0 = V 0 by simp [pV], show pV V 3 1 = V 1 by simp [pV], show pV V 3 2 = V 2 by simp [pV]]
      refine W_exit ?_
      refine wsr ?_
      refine wp rfl hC (oc_move hC (.tmp rfl) rfl rfl) ?_
      refine wp rfl hC (oc_callG (τ := fun k => bif Nat.beq k 0 then 2 else k) (N' := 4) hC .func (.cons (.tmp rfl) (.cons .cint .nil)) (.own (by first | rfl | simp) (.v1 (.free (by first | exact inSL_I _ | simp)) .end)) (fixr_u (D 3) cq (G 3) eq b3 (by omega) yq 4 hQ) glob_nil (mr_cons (by first | exact ren_blkI | exact ren_rowI | exact Blk.ren_free (by simp) _ | rfl) rfl mr_nil) (mr_cons (by first | exact ren_blkI | exact ren_rowI | exact Blk.ren_free (by simp) _ | rfl) rfl mr_nil) rfl (rd_cons rfl rd_nil) rfl rfl rfl rfl (by first | exact .inl rfl | exact .inr ⟨by simp, (nv_cons (by first | exact novsL_I _ | simp) nv_nil)⟩) rfl (dst_ok rfl rfl) (fun t => setE_cons _ _ _ _)) ?_
      refine WL_nil ?_
      refine W_seq ?_
      refine W_seq ?_
      rcases hno with h1 | ⟨h1, h2⟩ | ⟨h1, h2, hR⟩ | ⟨h1, h2, hR, hX⟩
      ·
        refine W_region ?_
        refine wp rfl hC (oc_move hC (.tmp rfl) rfl rfl) ?_
        refine wp rfl hC (oc_callG (τ := fun k => bif Nat.beq k 0 then 1 else k) (N' := 4) hC .func (.cons (.tmp rfl) .nil) (.own (by first | rfl | simp) .end) (err_c cR.length cR eR rfl f1 (by omega)) glob_nil (mr_cons (by first | exact ren_blkI | exact ren_rowI | exact Blk.ren_free (by simp) _ | rfl) rfl mr_nil) (mr_cons (by first | exact ren_blkI | exact ren_rowI | exact Blk.ren_free (by simp) _ | rfl) rfl mr_nil) rfl (rd_cons rfl rd_nil) rfl rfl rfl rfl (by first | exact .inl rfl | exact .inr ⟨by simp, (nv_cons (by first | exact novsL_I _ | simp) nv_nil)⟩) rfl (dst_ok rfl rfl) (fun t => setE_cons _ _ _ _)) ?_
        refine wp rfl hC (ox_cmp hC rfl (.tmp rfl) .cint (r := true) (by simp only [cmpI]; exact decide_eq_true h1) rfl rfl) ?_
        refine wp rfl hC (oc_move hC (.tmp rfl) rfl rfl) ?_
        refine WL_cons hC.fn (.no (s1 := ⟨_, (51, .tu []) :: _, _⟩) rfl rfl (by decide) rfl (by decide) (fun t ht => by cases ht; exact ⟨blt_lt rfl, blt_lt rfl⟩) (fun t => setE_cons _ _ _ _) rfl rfl) ?_
        refine WL_cons hC.fn (.no (s1 := ⟨_, (52, .tu []) :: _, _⟩) rfl rfl (by decide) rfl (by decide) (fun t ht => by cases ht; exact ⟨blt_lt rfl, blt_lt rfl⟩) (fun t => setE_cons _ _ _ _) rfl rfl) ?_
        refine WL_cons hC.fn (.no (s1 := ⟨_, (53, .tu []) :: _, _⟩) rfl rfl (by decide) rfl (by decide) (fun t ht => by cases ht; exact ⟨blt_lt rfl, blt_lt rfl⟩) (fun t => setE_cons _ _ _ _) rfl rfl) ?_
        refine wp rfl hC (ox_pick hC (.tmp rfl) .cbool (.tmp rfl) (by first | exact pick_t | exact pick_f | rfl) rfl rfl) ?_
        refine wp rfl hC (oc_move hC (.tmp rfl) rfl rfl) ?_
        refine WL_cons hC.fn (.no (s1 := ⟨_, (56, .tu []) :: _, _⟩) rfl rfl (by decide) rfl (by decide) (fun t ht => by cases ht; exact ⟨blt_lt rfl, blt_lt rfl⟩) (fun t => setE_cons _ _ _ _) rfl rfl) ?_
        refine WL_cons hC.fn (.no (s1 := ⟨_, (57, .tu []) :: _, _⟩) rfl rfl (by decide) rfl (by decide) (fun t ht => by cases ht; exact ⟨blt_lt rfl, blt_lt rfl⟩) (fun t => setE_cons _ _ _ _) rfl rfl) ?_
        refine WL_cons hC.fn (.no (s1 := ⟨_, (58, .tu []) :: _, _⟩) rfl rfl (by decide) rfl (by decide) (fun t ht => by cases ht; exact ⟨blt_lt rfl, blt_lt rfl⟩) (fun t => setE_cons _ _ _ _) rfl rfl) ?_
        refine wp rfl hC (ox_pick hC (.tmp rfl) .cbool (.tmp rfl) (by first | exact pick_t | exact pick_f | rfl) rfl rfl) ?_
        refine wp rfl hC (oc_move hC (.tmp rfl) rfl rfl) ?_
        refine WL_cons hC.fn (.no (s1 := ⟨_, (61, .tu []) :: _, _⟩) rfl rfl (by decide) rfl (by decide) (fun t ht => by cases ht; exact ⟨blt_lt rfl, blt_lt rfl⟩) (fun t => setE_cons _ _ _ _) rfl rfl) ?_
        refine WL_cons hC.fn (.no (s1 := ⟨_, (62, .tu []) :: _, _⟩) rfl rfl (by decide) rfl (by decide) (fun t ht => by cases ht; exact ⟨blt_lt rfl, blt_lt rfl⟩) (fun t => setE_cons _ _ _ _) rfl rfl) ?_
        refine WL_cons hC.fn (.no (s1 := ⟨_, (63, .tu []) :: _, _⟩) rfl rfl (by decide) rfl (by decide) (fun t ht => by cases ht; exact ⟨blt_lt rfl, blt_lt rfl⟩) (fun t => setE_cons _ _ _ _) rfl rfl) ?_
        refine WL_cons hC.fn (.no (s1 := ⟨_, (64, .tu []) :: _, _⟩) rfl rfl (by decide) rfl (by decide) (fun t ht => by cases ht; exact ⟨blt_lt rfl, blt_lt rfl⟩) (fun t => setE_cons _ _ _ _) rfl rfl) ?_
        refine WL_cons hC.fn (.no (s1 := ⟨_, (65, .tu []) :: _, _⟩) rfl rfl (by decide) rfl (by decide) (fun t ht => by cases ht; exact ⟨blt_lt rfl, blt_lt rfl⟩) (fun t => setE_cons _ _ _ _) rfl rfl) ?_
        refine wp rfl hC (ox_pick hC (.tmp rfl) .cbool (.tmp rfl) (by first | exact pick_t | exact pick_f | rfl) rfl rfl) ?_
        refine WL_nil ?_
        refine W_cond rfl (by decide) (fun _ => ?_) (fun hc => by cases hc)
        refine wsr ?_
        refine wp rfl hC (ox_build (out' := noteX (List.replicate 16 0) 0 0 0) hC .nil zero_25 bld_25 rfl (by unfold noteX; rfl) rfl rfl) ?_
        refine wp rfl hC (ox_store (bk' := .blk 25 (noteX (List.replicate 16 0) 0 0 0)) hC (.tmp rfl) (.tmp rfl) rfl shp_25 flat_noteX (by rw [cells_ag, length_noteX rfl]) (by show _ ≤ (noteX _ _ _ _).length; rw [length_noteX rfl]; decide) (put_nall rfl rfl) (by first | exact .here | exact .s1 rfl | exact .s2 rfl rfl | exact .s3 rfl rfl rfl | exact .s4 rfl rfl rfl rfl | exact .s5 rfl rfl rfl rfl rfl | exact .s6 rfl rfl rfl rfl rfl rfl | exact .s7 rfl rfl rfl rfl rfl rfl rfl | exact .s8 rfl rfl rfl rfl rfl rfl rfl rfl) rfl) ?_
        refine wp rfl hC (oc_assign hC .cint rfl rfl) ?_
        refine wp rfl hC (oc_assign hC .cbool rfl rfl) ?_
        refine WL_nil ?_
        refine W_ret ?_
        exact fin0 (.cons (.cell rfl (.p rfl) shp_25 (unit_nall (by first | rfl | exact hid))) (.cons (.tmp rfl) (.cons (.tmp rfl) .nil))) rfl (by simp)
      ·
        refine W_region ?_
        refine wp rfl hC (oc_move hC (.tmp rfl) rfl rfl) ?_
        refine wp rfl hC (oc_callG (τ := fun k => bif Nat.beq k 0 then 1 else k) (N' := 4) hC .func (.cons (.tmp rfl) .nil) (.own (by first | rfl | simp) .end) (err_c cR.length cR eR rfl f1 (by omega)) glob_nil (mr_cons (by first | exact ren_blkI | exact ren_rowI | exact Blk.ren_free (by simp) _ | rfl) rfl mr_nil) (mr_cons (by first | exact ren_blkI | exact ren_rowI | exact Blk.ren_free (by simp) _ | rfl) rfl mr_nil) rfl (rd_cons rfl rd_nil) rfl rfl rfl rfl (by first | exact .inl rfl | exact .inr ⟨by simp, (nv_cons (by first | exact novsL_I _ | simp) nv_nil)⟩) rfl (dst_ok rfl rfl) (fun t => setE_cons _ _ _ _)) ?_
        refine wp rfl hC (ox_cmp hC rfl (.tmp rfl) .cint (r := false) (by simp only [cmpI]; exact decide_eq_false (fun hne => hne h1)) rfl rfl) ?_
        refine wp rfl hC (oc_move hC (.tmp rfl) rfl rfl) ?_
        refine WL_cons hC.fn (.yes rfl rfl (by decide) rfl (oc_move hC (.tmp rfl) rfl rfl)) ?_
        refine WL_cons hC.fn (.yes rfl rfl (by decide) rfl (oc_callG (τ := fun k => bif Nat.beq k 0 then 2 else k) (N' := 4) hC .func (.cons (.tmp rfl) .nil) (.own (by first | rfl | simp) .end) (end_c cq.length cq eq rfl bq (by omega) ev hev) glob_nil (mr_cons (by first | exact ren_blkI | exact ren_rowI | exact Blk.ren_free (by simp) _ | rfl) rfl mr_nil) (mr_cons (by first | exact ren_blkI | exact ren_rowI | exact Blk.ren_free (by simp) _ | rfl) rfl mr_nil) rfl (rd_cons rfl rd_nil) rfl rfl rfl rfl (by first | exact .inl rfl | exact .inr ⟨by simp, (nv_cons (by first | exact novsL_I _ | simp) nv_nil)⟩) rfl (dst_ok rfl rfl) (fun t => setE_cons _ _ _ _))) ?_
        refine WL_cons hC.fn (.yes rfl rfl (by decide) rfl (ox_cmp hC rfl (.tmp rfl) .cint (r := true) (by simp only [cmpI]; exact decide_eq_true h2) rfl rfl)) ?_
        refine wp rfl hC (ox_pick hC (.tmp rfl) .cbool (.tmp rfl) (by first | exact pick_t | exact pick_f | rfl) rfl rfl) ?_
        refine wp rfl hC (oc_move hC (.tmp rfl) rfl rfl) ?_
        refine WL_cons hC.fn (.no (s1 := ⟨_, (56, .tu []) :: _, _⟩) rfl rfl (by decide) rfl (by decide) (fun t ht => by cases ht; exact ⟨blt_lt rfl, blt_lt rfl⟩) (fun t => setE_cons _ _ _ _) rfl rfl) ?_
        refine WL_cons hC.fn (.no (s1 := ⟨_, (57, .tu []) :: _, _⟩) rfl rfl (by decide) rfl (by decide) (fun t ht => by cases ht; exact ⟨blt_lt rfl, blt_lt rfl⟩) (fun t => setE_cons _ _ _ _) rfl rfl) ?_
        refine WL_cons hC.fn (.no (s1 := ⟨_, (58, .tu []) :: _, _⟩) rfl rfl (by decide) rfl (by decide) (fun t ht => by cases ht; exact ⟨blt_lt rfl, blt_lt rfl⟩) (fun t => setE_cons _ _ _ _) rfl rfl) ?_
        refine wp rfl hC (ox_pick hC (.tmp rfl) .cbool (.tmp rfl) (by first | exact pick_t | exact pick_f | rfl) rfl rfl) ?_
        refine wp rfl hC (oc_move hC (.tmp rfl) rfl rfl) ?_
        refine WL_cons hC.fn (.no (s1 := ⟨_, (61, .tu []) :: _, _⟩) rfl rfl (by decide) rfl (by decide) (fun t ht => by cases ht; exact ⟨blt_lt rfl, blt_lt rfl⟩) (fun t => setE_cons _ _ _ _) rfl rfl) ?_
        refine WL_cons hC.fn (.no (s1 := ⟨_, (62, .tu []) :: _, _⟩) rfl rfl (by decide) rfl (by decide) (fun t ht => by cases ht; exact ⟨blt_lt rfl, blt_lt rfl⟩) (fun t => setE_cons _ _ _ _) rfl rfl) ?_
        refine WL_cons hC.fn (.no (s1 := ⟨_, (63, .tu []) :: _, _⟩) rfl rfl (by decide) rfl (by decide) (fun t ht => by cases ht; exact ⟨blt_lt rfl, blt_lt rfl⟩) (fun t => setE_cons _ _ _ _) rfl rfl) ?_
        refine WL_cons hC.fn (.no (s1 := ⟨_, (64, .tu []) :: _, _⟩) rfl rfl (by decide) rfl (by decide) (fun t ht => by cases ht; exact ⟨blt_lt rfl, blt_lt rfl⟩) (fun t => setE_cons _ _ _ _) rfl rfl) ?_
        refine WL_cons hC.fn (.no (s1 := ⟨_, (65, .tu []) :: _, _⟩) rfl rfl (by decide) rfl (by decide) (fun t ht => by cases ht; exact ⟨blt_lt rfl, blt_lt rfl⟩) (fun t => setE_cons _ _ _ _) rfl rfl) ?_
        refine wp rfl hC (ox_pick hC (.tmp rfl) .cbool (.tmp rfl) (by first | exact pick_t | exact pick_f | rfl) rfl rfl) ?_
        refine WL_nil ?_
        refine W_cond rfl (by decide) (fun _ => ?_) (fun hc => by cases hc)
        refine wsr ?_
        refine wp rfl hC (ox_build (out' := noteX (List.replicate 16 0) 0 0 0) hC .nil zero_25 bld_25 rfl (by unfold noteX; rfl) rfl rfl) ?_
        refine wp rfl hC (ox_store (bk' := .blk 25 (noteX (List.replicate 16 0) 0 0 0)) hC (.tmp rfl) (.tmp rfl) rfl shp_25 flat_noteX (by rw [cells_ag, length_noteX rfl]) (by show _ ≤ (noteX _ _ _ _).length; rw [length_noteX rfl]; decide) (put_nall rfl rfl) (by first | exact .here | exact .s1 rfl | exact .s2 rfl rfl | exact .s3 rfl rfl rfl | exact .s4 rfl rfl rfl rfl | exact .s5 rfl rfl rfl rfl rfl | exact .s6 rfl rfl rfl rfl rfl rfl | exact .s7 rfl rfl rfl rfl rfl rfl rfl | exact .s8 rfl rfl rfl rfl rfl rfl rfl rfl) rfl) ?_
        refine wp rfl hC (oc_assign hC .cint rfl rfl) ?_
        refine wp rfl hC (oc_assign hC .cbool rfl rfl) ?_
        refine WL_nil ?_
        refine W_ret ?_
        exact fin0 (.cons (.cell rfl (.p rfl) shp_25 (unit_nall (by first | rfl | exact hid))) (.cons (.tmp rfl) (.cons (.tmp rfl) .nil))) rfl (by simp)
      ·
        refine W_region ?_
        refine wp rfl hC (oc_move hC (.tmp rfl) rfl rfl) ?_
        refine wp rfl hC (oc_callG (τ := fun k => bif Nat.beq k 0 then 1 else k) (N' := 4) hC .func (.cons (.tmp rfl) .nil) (.own (by first | rfl | simp) .end) (err_c cR.length cR eR rfl f1 (by omega)) glob_nil (mr_cons (by first | exact ren_blkI | exact ren_rowI | exact Blk.ren_free (by simp) _ | rfl) rfl mr_nil) (mr_cons (by first | exact ren_blkI | exact ren_rowI | exact Blk.ren_free (by simp) _ | rfl) rfl mr_nil) rfl (rd_cons rfl rd_nil) rfl rfl rfl rfl (by first | exact .inl rfl | exact .inr ⟨by simp, (nv_cons (by first | exact novsL_I _ | simp) nv_nil)⟩) rfl (dst_ok rfl rfl) (fun t => setE_cons _ _ _ _)) ?_
        refine wp rfl hC (ox_cmp hC rfl (.tmp rfl) .cint (r := false) (by simp only [cmpI]; exact decide_eq_false (fun hne => hne h1)) rfl rfl) ?_
        refine wp rfl hC (oc_move hC (.tmp rfl) rfl rfl) ?_
        refine WL_cons hC.fn (.yes rfl rfl (by decide) rfl (oc_move hC (.tmp rfl) rfl rfl)) ?_
        refine WL_cons hC.fn (.yes rfl rfl (by decide) rfl (oc_callG (τ := fun k => bif Nat.beq k 0 then 2 else k) (N' := 4) hC .func (.cons (.tmp rfl) .nil) (.own (by first | rfl | simp) .end) (end_c cq.length cq eq rfl bq (by omega) ev hev) glob_nil (mr_cons (by first | exact ren_blkI | exact ren_rowI | exact Blk.ren_free (by simp) _ | rfl) rfl mr_nil) (mr_cons (by first | exact ren_blkI | exact ren_rowI | exact Blk.ren_free (by simp) _ | rfl) rfl mr_nil) rfl (rd_cons rfl rd_nil) rfl rfl rfl rfl (by first | exact .inl rfl | exact .inr ⟨by simp, (nv_cons (by first | exact novsL_I _ | simp) nv_nil)⟩) rfl (dst_ok rfl rfl) (fun t => setE_cons _ _ _ _))) ?_
        refine WL_cons hC.fn (.yes rfl rfl (by decide) rfl (ox_cmp hC rfl (.tmp rfl) .cint (r := false) (by simp only [cmpI]; exact decide_eq_false (fun hne => hne h2)) rfl rfl)) ?_
        refine wp rfl hC (ox_pick hC (.tmp rfl) .cbool (.tmp rfl) (by first | exact pick_t | exact pick_f | rfl) rfl rfl) ?_
        refine wp rfl hC (oc_move hC (.tmp rfl) rfl rfl) ?_
        refine WL_cons hC.fn (.yes rfl rfl (by decide) rfl (oc_load hC (.tmp rfl) (by first | exact .p rfl | exact .rp) shp_25 (by exact (unit_nall hid)) rfl rfl)) ?_
        refine WL_cons hC.fn (.yes rfl rfl (by decide) rfl (oc_call hC (.cons (.tmp rfl) .nil) (.cons1 (.free (by first | exact inSL_I _ | simp)) (.same (by first | exact inSL_I _ | simp))) (nright_f (idN Y 16 16) (V 0) (V 1) (V 2) hid bid hR) glob_nil (by first | exact inSL_I _ | simp) (by first | exact .inl rfl | exact .inr (by simp)) rfl rfl)) ?_
        refine WL_cons hC.fn (.yes rfl rfl (by decide) rfl (oc_not hC (.tmp rfl) rfl rfl)) ?_
        refine wp rfl hC (ox_pick hC (.tmp rfl) .cbool (.tmp rfl) (by first | exact pick_t | exact pick_f | rfl) rfl rfl) ?_
        refine wp rfl hC (oc_move hC (.tmp rfl) rfl rfl) ?_
        refine WL_cons hC.fn (.no (s1 := ⟨_, (61, .tu []) :: _, _⟩) rfl rfl (by decide) rfl (by decide) (fun t ht => by cases ht; exact ⟨blt_lt rfl, blt_lt rfl⟩) (fun t => setE_cons _ _ _ _) rfl rfl) ?_
        refine WL_cons hC.fn (.no (s1 := ⟨_, (62, .tu []) :: _, _⟩) rfl rfl (by decide) rfl (by decide) (fun t ht => by cases ht; exact ⟨blt_lt rfl, blt_lt rfl⟩) (fun t => setE_cons _ _ _ _) rfl rfl) ?_
        refine WL_cons hC.fn (.no (s1 := ⟨_, (63, .tu []) :: _, _⟩) rfl rfl (by decide) rfl (by decide) (fun t ht => by cases ht; exact ⟨blt_lt rfl, blt_lt rfl⟩) (fun t => setE_cons _ _ _ _) rfl rfl) ?_
        refine WL_cons hC.fn (.no (s1 := ⟨_, (64, .tu []) :: _, _⟩) rfl rfl (by decide) rfl (by decide) (fun t ht => by cases ht; exact ⟨blt_lt rfl, blt_lt rfl⟩) (fun t => setE_cons _ _ _ _) rfl rfl) ?_
        refine WL_cons hC.fn (.no (s1 := ⟨_, (65, .tu []) :: _, _⟩) rfl rfl (by decide) rfl (by decide) (fun t ht => by cases ht; exact ⟨blt_lt rfl, blt_lt rfl⟩) (fun t => setE_cons _ _ _ _) rfl rfl) ?_
        refine wp rfl hC (ox_pick hC (.tmp rfl) .cbool (.tmp rfl) (by first | exact pick_t | exact pick_f | rfl) rfl rfl) ?_
        refine WL_nil ?_
        refine W_cond rfl (by decide) (fun _ => ?_) (fun hc => by cases hc)
        refine wsr ?_
        refine wp rfl hC (ox_build (out' := noteX (List.replicate 16 0) 0 0 0) hC .nil zero_25 bld_25 rfl (by unfold noteX; rfl) rfl rfl) ?_
        refine wp rfl hC (ox_store (bk' := .blk 25 (noteX (List.replicate 16 0) 0 0 0)) hC (.tmp rfl) (.tmp rfl) rfl shp_25 flat_noteX (by rw [cells_ag, length_noteX rfl]) (by show _ ≤ (noteX _ _ _ _).length; rw [length_noteX rfl]; decide) (put_nall rfl rfl) (by first | exact .here | exact .s1 rfl | exact .s2 rfl rfl | exact .s3 rfl rfl rfl | exact .s4 rfl rfl rfl rfl | exact .s5 rfl rfl rfl rfl rfl | exact .s6 rfl rfl rfl rfl rfl rfl | exact .s7 rfl rfl rfl rfl rfl rfl rfl | exact .s8 rfl rfl rfl rfl rfl rfl rfl rfl) rfl) ?_
        refine wp rfl hC (oc_assign hC .cint rfl rfl) ?_
        refine wp rfl hC (oc_assign hC .cbool rfl rfl) ?_
        refine WL_nil ?_
        refine W_ret ?_
        exact fin0 (.cons (.cell rfl (.p rfl) shp_25 (unit_nall (by first | rfl | exact hid))) (.cons (.tmp rfl) (.cons (.tmp rfl) .nil))) rfl (by simp)
      ·
        refine W_region ?_
        refine wp rfl hC (oc_move hC (.tmp rfl) rfl rfl) ?_
        refine wp rfl hC (oc_callG (τ := fun k => bif Nat.beq k 0 then 1 else k) (N' := 4) hC .func (.cons (.tmp rfl) .nil) (.own (by first | rfl | simp) .end) (err_c cR.length cR eR rfl f1 (by omega)) glob_nil (mr_cons (by first | exact ren_blkI | exact ren_rowI | exact Blk.ren_free (by simp) _ | rfl) rfl mr_nil) (mr_cons (by first | exact ren_blkI | exact ren_rowI | exact Blk.ren_free (by simp) _ | rfl) rfl mr_nil) rfl (rd_cons rfl rd_nil) rfl rfl rfl rfl (by first | exact .inl rfl | exact .inr ⟨by simp, (nv_cons (by first | exact novsL_I _ | simp) nv_nil)⟩) rfl (dst_ok rfl rfl) (fun t => setE_cons _ _ _ _)) ?_
        refine wp rfl hC (ox_cmp hC rfl (.tmp rfl) .cint (r := false) (by simp only [cmpI]; exact decide_eq_false (fun hne => hne h1)) rfl rfl) ?_
        refine wp rfl hC (oc_move hC (.tmp rfl) rfl rfl) ?_
        refine WL_cons hC.fn (.yes rfl rfl (by decide) rfl (oc_move hC (.tmp rfl) rfl rfl)) ?_
        refine WL_cons hC.fn (.yes rfl rfl (by decide) rfl (oc_callG (τ := fun k => bif Nat.beq k 0 then 2 else k) (N' := 4) hC .func (.cons (.tmp rfl) .nil) (.own (by first | rfl | simp) .end) (end_c cq.length cq eq rfl bq (by omega) ev hev) glob_nil (mr_cons (by first | exact ren_blkI | exact ren_rowI | exact Blk.ren_free (by simp) _ | rfl) rfl mr_nil) (mr_cons (by first | exact ren_blkI | exact ren_rowI | exact Blk.ren_free (by simp) _ | rfl) rfl mr_nil) rfl (rd_cons rfl rd_nil) rfl rfl rfl rfl (by first | exact .inl rfl | exact .inr ⟨by simp, (nv_cons (by first | exact novsL_I _ | simp) nv_nil)⟩) rfl (dst_ok rfl rfl) (fun t => setE_cons _ _ _ _))) ?_
        refine WL_cons hC.fn (.yes rfl rfl (by decide) rfl (ox_cmp hC rfl (.tmp rfl) .cint (r := false) (by simp only [cmpI]; exact decide_eq_false (fun hne => hne h2)) rfl rfl)) ?_
        refine wp rfl hC (ox_pick hC (.tmp rfl) .cbool (.tmp rfl) (by first | exact pick_t | exact pick_f | rfl) rfl rfl) ?_
        refine wp rfl hC (oc_move hC (.tmp rfl) rfl rfl) ?_
        refine WL_cons hC.fn (.yes rfl rfl (by decide) rfl (oc_load hC (.tmp rfl) (by first | exact .p rfl | exact .rp) shp_25 (by exact (unit_nall hid)) rfl rfl)) ?_
        refine WL_cons hC.fn (.yes rfl rfl (by decide) rfl (oc_call hC (.cons (.tmp rfl) .nil) (.cons1 (.free (by first | exact inSL_I _ | simp)) (.same (by first | exact inSL_I _ | simp))) (nright_t (idN Y 16 16) (V 0) (V 1) (V 2) hid bid hR) glob_nil (by first | exact inSL_I _ | simp) (by first | exact .inl rfl | exact .inr (by simp)) rfl rfl)) ?_
        refine WL_cons hC.fn (.yes rfl rfl (by decide) rfl (oc_not hC (.tmp rfl) rfl rfl)) ?_
        refine wp rfl hC (ox_pick hC (.tmp rfl) .cbool (.tmp rfl) (by first | exact pick_t | exact pick_f | rfl) rfl rfl) ?_
        refine wp rfl hC (oc_move hC (.tmp rfl) rfl rfl) ?_
        refine WL_cons hC.fn (.yes rfl rfl (by decide) rfl (oc_load hC (.tmp rfl) (by first | exact .p rfl | exact .rp) shp_25 (by exact (unit_nall hid)) rfl rfl)) ?_
        refine WL_cons hC.fn (.yes rfl rfl (by decide) rfl (oc_callN hC (.cons (.tmp rfl) .nil) (.cons1 (.free (by first | exact inSL_I _ | simp)) (.same (by first | exact inSL_I _ | simp))) (nenc_c (idN Y 16 16) (V 0) (V 1) (V 2) hid bid hR) (glob_cons rfl rfl (by first | exact inSL_I _ | simp) glob_nil) (by first | exact inSL_I _ | simp) rfl (by first | exact .inl rfl | exact .inr ⟨by simp, novsL_I _⟩ | exact .inr ⟨by simp, by simp⟩) rfl rfl)) ?_
        refine WL_cons hC.fn (.yes rfl rfl (by decide) rfl (oc_move hC (.tmp rfl) rfl rfl)) ?_
        refine WL_cons hC.fn (.yes rfl rfl (by decide) rfl (oc_call hC (.cons (.tmp rfl) (.cons (.tmp rfl) .nil)) (.cons1 (by first | exact .free (by first | exact inSL_I _ | simp) | exact .row rfl rfl (by first | exact inSL_I _ | simp) | exact .nils | exact .sl1 rfl (by first | exact cut_I | rfl) (by first | exact inSL_I _ | simp)) (.cons1 (by first | exact .free (by first | exact inSL_I _ | simp) | exact .row rfl rfl (by first | exact inSL_I _ | simp) | exact .nils | exact .sl1 rfl (by first | exact cut_I | rfl) (by first | exact inSL_I _ | simp)) (.same (by first | exact inSL_I _ | simp)))) (equal_c (nL (idN Y 16 16) (V 0) (V 1) (V 2)).length (C 0).length (nL (idN Y 16 16) (V 0) (V 1) (V 2)) (C 0) rfl rfl (by have := nL_le (x := V 0) (v := V 1) (i := V 2) hid; omega)) glob_nil (by first | exact inSL_I _ | simp) (by first | exact .inl rfl | exact .inr (by simp)) rfl rfl)) ?_
        rw [decide_eq_false hX]
        refine WL_cons hC.fn (.yes rfl rfl (by decide) rfl (oc_not hC (.tmp rfl) rfl rfl)) ?_
        refine wp rfl hC (ox_pick hC (.tmp rfl) .cbool (.tmp rfl) (by first | exact pick_t | exact pick_f | rfl) rfl rfl) ?_
        refine WL_nil ?_
        refine W_cond rfl (by decide) (fun _ => ?_) (fun hc => by cases hc)
        refine wsr ?_
        refine wp rfl hC (ox_build (out' := noteX (List.replicate 16 0) 0 0 0) hC .nil zero_25 bld_25 rfl (by unfold noteX; rfl) rfl rfl) ?_
        refine wp rfl hC (ox_store (bk' := .blk 25 (noteX (List.replicate 16 0) 0 0 0)) hC (.tmp rfl) (.tmp rfl) rfl shp_25 flat_noteX (by rw [cells_ag, length_noteX rfl]) (by show _ ≤ (noteX _ _ _ _).length; rw [length_noteX rfl]; decide) (put_nall rfl rfl) (by first | exact .here | exact .s1 rfl | exact .s2 rfl rfl | exact .s3 rfl rfl rfl | exact .s4 rfl rfl rfl rfl | exact .s5 rfl rfl rfl rfl rfl | exact .s6 rfl rfl rfl rfl rfl rfl | exact .s7 rfl rfl rfl rfl rfl rfl rfl | exact .s8 rfl rfl rfl rfl rfl rfl rfl rfl) rfl) ?_
        refine wp rfl hC (oc_assign hC .cint rfl rfl) ?_
        refine wp rfl hC (oc_assign hC .cbool rfl rfl) ?_
        refine WL_nil ?_
        refine W_ret ?_
        exact fin0 (.cons (.cell rfl (.p rfl) shp_25 (unit_nall (by first | rfl | exact hid))) (.cons (.tmp rfl) (.cons (.tmp rfl) .nil))) rfl (by simp)
set_option maxRecDepth 20000 in
set_option maxHeartbeats 4000000 in
theorem nread_c (b : List Int) (bb : B8 b) (hl : b.length ≤ 1099511627776) (eR : Int) (cR : List Int) (C : Nat → List Int) (E : Nat → Int) (Y : Nat → List Int) (D : Nat → List Int) (G V : Nat → Int) (eq : Int) (cq yq : List Int) (hB : BytesS b 0 64 eR cR (C 0)) (hE0 : E 0 = 0) (hF : ∀ j, j < 16 → FixS (C j) (E j) 1 (E (j + 1)) (C (j + 1)) (Y j)) (hD0 : D 0 = C 16) (hG0 : G 0 = E 16) (hN : ∀ j, j < 3 → NumS (D j) (G j) 1099511627775 (G (j + 1)) (D (j + 1)) (V j)) (hQ : FixS (D 3) (G 3) 4 eq cq yq) (lf ev : Int) (hlf : (eR = 0 ∧ lf = cR.length) ∨ (eR ≠ 0 ∧ lf = 0)) (hev : (eq = 0 ∧ 0 < cq.length ∧ ev = 5) ∨ (eq = 0 ∧ cq.length = 0 ∧ ev = 0) ∨ (eq ≠ 0 ∧ ev = eq)) (h1 : eR = 0) (h2 : ev = 0) (hRt : RightN (V 0) (V 1) (V 2)) (hX : (nL (idN Y 16 16) (V 0) (V 1) (V 2)) = C 0) : FnC Tryd.prog 26 [(1000000, .rp (I .u32 nibT))] [.vs b.length (I .u8 b)] [] [] (.tu [.ag (noteX (idN Y 16 16) (V 0) (V 1) (V 2)), .i .i64 lf, .b true]) := by
  obtain ⟨f1, f2, f3, f4⟩ := hB.facts bb
  have hch := chain_ok' (c0 := C 0) (Nat.le_refl _) hF f3
  have hid := length_idN Y (Nat.le_refl 16)
  have bid := B8_idN hF hch
  have b16 := (hch 16 (Nat.le_refl _)).1
  have l16 := (hch 16 (Nat.le_refl _)).2
  have hnk := nums_ok hN (by rw [hD0]; exact b16)
  rw [hD0] at hnk
  have b3 := (hnk 3 (Nat.le_refl _)).1
  have l3 := (hnk 3 (Nat.le_refl _)).2
  have bq := hQ.b8 b3
  have lq := hQ.len
  have hv0 := (hN 0 (by decide)).nat
  have hv1 := (hN 1 (by decide)).nat
  have hv2 := (hN 2 (by decide)).nat
  refine FnC.introR (N0 := 0) (T := 70) (E := [(0, .vs b.length (I .u8 b)), (1000000, .rp (I .u32 nibT))]) Tryd.func26 rfl (by decide) mix rfl rfl rfl (by simp) rfl ⟨(by first | exact inSL_I _ | trivial | simp), trivial⟩ (by simp) (by intro S _ _ h; simp) (fun F n0 X w ρ hC hro => ?_)
  refine wsr ?_
  refine wp rfl hC (ox_alloc (cs' := noteX (List.replicate 16 0) 0 0 0) hC zero_25 (by unfold noteX; rfl) rfl rfl) ?_
  refine wp rfl hC (oc_assign hC .cint rfl rfl) ?_
  refine wp rfl hC (oc_assign hC .cbool rfl rfl) ?_
  refine WL_nil ?_
  refine wsr ?_
  refine wp rfl hC (oc_move hC (.tmp rfl) rfl rfl) ?_
  refine wp rfl hC (oc_callG (τ := fun k => bif Nat.beq k 0 then 1 else k) (N' := 2) hC .func (.cons (.tmp rfl) .nil) (.v1 (by first | exact .free (by first | exact inSL_I _ | simp) | exact .row rfl rfl (by first | exact inSL_I _ | simp) | exact .nils | exact .sl1 rfl (by first | exact cut_I | rfl) (by first | exact inSL_I _ | simp)) .end) (new_c _ b rfl hl) glob_nil mr_nil (mr_cons (by first | exact ren_blkI | exact ren_rowI | exact Blk.ren_free (by simp) _ | rfl) rfl mr_nil) rfl rd_nil rfl rfl rfl rfl (by first | exact .inl rfl | exact .inr ⟨by simp, (nv_cons (by first | exact novsL_I _ | simp) nv_nil)⟩) rfl (dst_ok rfl rfl) (fun t => setE_cons _ _ _ _)) ?_
  refine wp rfl hC (oc_assign hC (.tmp rfl) rfl rfl) ?_
  refine WL_nil ?_
  refine wsr ?_
  refine wp rfl hC (oc_move hC (.tmp rfl) rfl rfl) ?_
  refine wp rfl hC (oc_callG (τ := fun k => bif Nat.beq k 0 then 1 else k) (N' := 2) hC .func (.cons (.tmp rfl) (.cons .cint .nil)) (.own (by first | rfl | simp) (.v1 (.free (by first | exact inSL_I _ | simp)) .end)) (bytes_x b cR (C 0) 0 64 eR bb hl hB) glob_nil (mr_cons (by first | exact ren_blkI | exact ren_rowI | exact Blk.ren_free (by simp) _ | rfl) rfl mr_nil) (mr_cons (by first | exact ren_blkI | exact ren_rowI | exact Blk.ren_free (by simp) _ | rfl) rfl mr_nil) ren_vsI (rd_cons rfl rd_nil) rfl rfl rfl rfl (by first | exact .inl rfl | exact .inr ⟨by simp, (nv_cons (by first | exact novsL_I _ | simp) nv_nil)⟩) rfl (dst_ok rfl rfl) (fun t => setE_cons _ _ _ _)) ?_
  refine wp rfl hC (oc_assign hC (.tmp rfl) rfl rfl) ?_
  refine WL_nil ?_
  refine wsr ?_
  refine wp rfl hC (oc_move hC (.tmp rfl) rfl rfl) ?_
  refine wp rfl hC (oc_callG (τ := fun k => bif Nat.beq k 0 then 1 else k) (N' := 2) hC .func (.cons (.tmp rfl) .nil) (.own (by first | rfl | simp) .end) (left_c cR.length cR eR rfl f1 (by omega) lf hlf) glob_nil (mr_cons (by first | exact ren_blkI | exact ren_rowI | exact Blk.ren_free (by simp) _ | rfl) rfl mr_nil) (mr_cons (by first | exact ren_blkI | exact ren_rowI | exact Blk.ren_free (by simp) _ | rfl) rfl mr_nil) rfl (rd_cons rfl rd_nil) rfl rfl rfl rfl (by first | exact .inl rfl | exact .inr ⟨by simp, (nv_cons (by first | exact novsL_I _ | simp) nv_nil)⟩) rfl (dst_ok rfl rfl) (fun t => setE_cons _ _ _ _)) ?_
  refine wp rfl hC (oc_assign hC (.tmp rfl) rfl rfl) ?_
  refine WL_nil ?_
  refine wsr ?_
  refine wp rfl hC (oc_move hC (.tmp rfl) rfl rfl) ?_
  refine wp rfl hC (oc_callG (τ := fun k => bif Nat.beq k 0 then 2 else k) (N' := 3) hC .func (.cons (.tmp rfl) .nil) (.v1 (by first | exact .free (by first | exact inSL_I _ | simp) | exact .row rfl rfl (by first | exact inSL_I _ | simp) | exact .nils | exact .sl1 rfl (by first | exact cut_I | rfl) (by first | exact inSL_I _ | simp)) .end) (new_c _ (C 0) rfl (by omega)) glob_nil mr_nil (mr_cons (by first | exact ren_blkI | exact ren_rowI | exact Blk.ren_free (by simp) _ | rfl) rfl mr_nil) rfl rd_nil rfl rfl rfl rfl (by first | exact .inl rfl | exact .inr ⟨by simp, (nv_cons (by first | exact novsL_I _ | simp) nv_nil)⟩) rfl (dst_ok rfl rfl) (fun t => setE_cons _ _ _ _)) ?_
  refine wp rfl hC (oc_assign hC (.tmp rfl) rfl rfl) ?_
  refine WL_nil ?_
  refine wsr ?_
  refine wp rfl hC (ox_alloc (cs' := noteX (List.replicate 16 0) 0 0 0) hC zero_25 (by unfold noteX; rfl) rfl rfl) ?_
  refine WL_nil ?_
  refine W_seq ?_
  refine wsr ?_
  refine wp rfl hC (oc_move hC .cint rfl rfl) ?_
  refine WL_nil ?_
  refine W_blk ?_
  refine W_loopW (fun (ζ : Nat) => ⟨4, [(2, .p 0 0), (3, .i .i64 0), (4, .b false), (5, .p 1 0), (6, .vs (C 0).length (I .u8 (C 0))), (7, .i .i64 lf), (8, .p 2 0), (9, .p 3 0), (21, .i .i64 ζ), (1000000, .rp (I .u32 nibT))], [(0, .blk 25 (noteX (List.replicate 16 0) 0 0 0)), (1, .blk 73 [.vs cR.length (I .u8 cR), .i .i64 eR]), (2, .blk 73 [.vs (C ζ).length (I .u8 (C ζ)), .i .i64 (E ζ)]), (3, .blk 25 (noteX (idN Y 16 ζ) 0 0 0))]⟩) (fun ζ => ζ ≤ 16) (fun ζ => 16 - ζ) (0) (Nat.zero_le _) (weak (fun k => k) (.cons rfl (by first | rfl | simp) (by show _ < _; decide) (.cons rfl (by first | rfl | exact congrArg (AV.i _) (by omega) | exact congrArg (AV.i _) (by simp; omega)) trivial (.cons rfl (by first | rfl | simp) trivial (.cons rfl (by first | rfl | simp) (by show _ < _; decide) (.cons rfl ren_vsI (by first | exact inSL_I _ | simp) (.cons rfl (by first | rfl | exact congrArg (AV.i _) (by omega) | exact congrArg (AV.i _) (by simp; omega)) trivial (.cons rfl (by first | rfl | simp) (by show _ < _; decide) (.cons rfl (by first | rfl | simp) (by show _ < _; decide) (.cons rfl rfl trivial (.cons rfl (by first | exact ren_agI | exact ren_vsI | exact ren_free _ _ (by first | exact inSL_I _ | simp)) (by first | exact inSL_I _ | simp) .nil)))))))))) (.cons rfl ren_noteB rfl (by first | exact inSL_I _ | simp) (.cons rfl (Blk.ren_free (by simp) _) rfl (by first | exact inSL_I _ | simp) (.cons rfl ((Blk.ren_free (by simp) _).trans (by rw [hE0])) rfl (by first | exact inSL_I _ | simp) (.cons rfl (ren_noteB.trans (by rw [idN_zero])) rfl (by first | exact inSL_I _ | simp) .nil)))) rfl rfl rfl) ?_
  intro j hR
  replace hR : j ≤ 16 := hR
  first | show W _ _ _ ⟨4, [(2, .p 0 0), (3, .i .i64 0), (4, .b false), (5, .p 1 0), (6, .vs (C 0).length (I .u8 (C 0))), (7, .i .i64 lf), (8, .p 2 0), (9, .p 3 0), (21, .i .i64 j), (1000000, .rp (I .u32 nibT))], [(0, .blk 25 (noteX (List.replicate 16 0) 0 0 0)), (1, .blk 73 [.vs cR.length (I .u8 cR), .i .i64 eR]), (2, .blk 73 [.vs (C j).length (I .u8 (C j)), .i .i64 (E j)]), (3, .blk 25 (noteX (idN Y 16 j) 0 0 0))]⟩ | skip
  have hii := length_idN Y hR
  refine wsr ?_
  refine wp rfl hC (ox_cmp hC rfl (.tmp rfl) .cint rfl rfl rfl) ?_
  refine WL_nil ?_
  refine W_seq ?_
  refine W_cond rfl (by decide) (fun hc => ?_) (fun hc => ?_)
  ·
    replace hc := lss_t hc
    have hfi := hF j (by omega)
    have hbi := (hch j (by omega)).1
    have hli := (hch j (by omega)).2
    have hxi := hfi.val hbi
    refine W_skip ?_
    refine W_seq ?_
    refine W_blk ?_
    refine wsr ?_
    refine wp rfl hC (oc_move hC (.tmp rfl) rfl rfl) ?_
    refine wp rfl hC (oc_assign hC (.tmp rfl) rfl rfl) ?_
    refine WL_nil ?_
    refine W_region ?_
    refine wp rfl hC (oc_move hC (.tmp rfl) rfl rfl) ?_
    refine wp rfl hC (oc_move hC (.tmp rfl) rfl rfl) ?_
    refine wp rfl hC (oc_callG (τ := fun k => bif Nat.beq k 0 then 2 else k) (N' := 4) hC .func (.cons (.tmp rfl) (.cons .cint .nil)) (.own (by first | rfl | simp) (.v1 (.free (by first | exact inSL_I _ | simp)) .end)) (fixr_u (C j) (C (j + 1)) (E j) (E (j + 1)) hbi (by omega) (Y j) 1 hfi) glob_nil (mr_cons (by first | exact ren_blkI | exact ren_rowI | exact Blk.ren_free (by simp) _ | rfl) rfl mr_nil) (mr_cons (by first | exact ren_blkI | exact ren_rowI | exact Blk.ren_free (by simp) _ | rfl) rfl mr_nil) rfl (rd_cons rfl rd_nil) rfl rfl rfl rfl (by first | exact .inl rfl | exact .inr ⟨by simp, (nv_cons (by first | exact novsL_I _ | simp) nv_nil)⟩) rfl (dst_ok rfl rfl) (fun t => setE_cons _ _ _ _)) ?_
    refine wp rfl hC (oc_conv hC (.tmp rfl) rfl Tryd.underlying5 (r := (vle (Y j))) (u8_conv (by omega)) rfl rfl) ?_
    refine wp rfl hC (oc_field hC (.tmp rfl) fld_25_0 (by decide) (by first | exact .p (Nat.zero_add _) | exact .p rfl | exact .rp (by decide)) rfl rfl) ?_
    refine wp rfl hC (ox_indexA hC (j := j) (.tmp rfl) (.tmp rfl) idx_23 (by first | rfl | omega | (simp; omega)) (by omega) (by first | exact Nat.mul_one _ | rfl) (by first | exact .p (Nat.zero_add _) | exact .p rfl | exact .rp (by first | omega | (simp <;> fail) | (simp; omega))) rfl rfl) ?_
    refine wp rfl hC (ox_store (bk' := .blk 25 (noteX ((idN Y 16 j).set j (vle (Y j))) 0 0 0)) hC (.tmp rfl) (.tmp rfl) rfl shp_5 (by first | rfl | exact flat_agI) (by first | exact cells1 rfl | (rw [cells_ag, length_I]; omega) | rfl | (simp <;> fail) | (simp; omega)) (by show _ ≤ (noteX _ _ _ _).length; rw [length_noteX hii]; omega) (put_nid0 (by rw [hii]; omega)) (by first | exact .here | exact .s1 rfl | exact .s2 rfl rfl | exact .s3 rfl rfl rfl | exact .s4 rfl rfl rfl rfl | exact .s5 rfl rfl rfl rfl rfl | exact .s6 rfl rfl rfl rfl rfl rfl | exact .s7 rfl rfl rfl rfl rfl rfl rfl | exact .s8 rfl rfl rfl rfl rfl rfl rfl rfl) rfl) ?_
    refine WL_nil ?_
    refine W_region ?_
    refine wp rfl hC (oc_bin hC rfl (.tmp rfl) .cint (by first | exact i64_add (by omega) | rfl) rfl rfl) ?_
    refine wp rfl hC (oc_move hC (.tmp rfl) rfl rfl) ?_
    refine WL_nil ?_
    exact ⟨(j + 1), (by omega), (weak (fun k => k) (.cons rfl (by first | rfl | simp) (by show _ < _; decide) (.cons rfl (by first | rfl | exact congrArg (AV.i _) (by omega) | exact congrArg (AV.i _) (by simp; omega)) trivial (.cons rfl (by first | rfl | simp) trivial (.cons rfl (by first | rfl | simp) (by show _ < _; decide) (.cons rfl ren_vsI (by first | exact inSL_I _ | simp) (.cons rfl (by first | rfl | exact congrArg (AV.i _) (by omega) | exact congrArg (AV.i _) (by simp; omega)) trivial (.cons rfl (by first | rfl | simp) (by show _ < _; decide) (.cons rfl (by first | rfl | simp) (by show _ < _; decide) (.cons rfl (by first | rfl | exact congrArg (AV.i _) (by omega) | exact congrArg (AV.i _) (by simp; omega)) trivial (.cons rfl (by first | exact ren_agI | exact ren_vsI | exact ren_free _ _ (by first | exact inSL_I _ | simp)) (by first | exact inSL_I _ | simp) .nil)))))))))) (.cons rfl ren_noteB rfl (by first | exact inSL_I _ | simp) (.cons rfl (Blk.ren_free (by simp) _) rfl (by first | exact inSL_I _ | simp) (.cons rfl (Blk.ren_free (by simp) _) rfl (by first | exact inSL_I _ | simp) (.cons rfl (ren_noteB.trans (by rw [idN_set (by omega)])) rfl (by first | exact inSL_I _ | simp) .nil)))) rfl rfl rfl), (by omega)⟩
  ·
    replace hc := lss_f hc
    obtain rfl : j = 16 := by omega
    refine W_exit ?_
    refine W_seq ?_
    refine wsr ?_
    refine wp rfl hC (oc_field hC (.tmp rfl) fld_25_1 (by decide) (by first | exact .p (Nat.zero_add _) | exact .p rfl | exact .rp (by decide)) rfl rfl) ?_
    refine wp rfl hC (oc_field hC (.tmp rfl) fld_25_2 (by decide) (by first | exact .p (Nat.zero_add _) | exact .p rfl | exact .rp (by decide)) rfl rfl) ?_
    refine wp rfl hC (oc_field hC (.tmp rfl) fld_25_3 (by decide) (by first | exact .p (Nat.zero_add _) | exact .p rfl | exact .rp (by decide)) rfl rfl) ?_
    refine wp rfl hC (ox_lit hC (.cons (.tmp rfl) (.cons (.tmp rfl) (.cons (.tmp rfl) .nil))) Tryd.underlying66 cells_65 zero_65 rfl (by decide) rfl rfl (by first | rfl | simp) rfl rfl) ?_
    refine wp rfl hC (ox_len hC (.tmp rfl) (by first | exact .row rfl | exact .vs | exact .sl rfl | exact .nils) Tryd.underlying66 rfl rfl rfl) ?_
    refine wp rfl hC (oc_move hC .cint rfl rfl) ?_
    refine WL_nil ?_
    refine W_blk ?_
    refine W_loopW (fun (ζ : Nat) => ⟨4, [(2, .p 0 0), (3, .i .i64 0), (4, .b false), (5, .p 1 0), (6, .vs (C 0).length (I .u8 (C 0))), (7, .i .i64 lf), (8, .p 2 0), (9, .p 3 0), (34, .vs 3 [.p 3 16, .p 3 17, .p 3 18]), (35, .i .i64 3), (36, .i .i64 ζ), (1000000, .rp (I .u32 nibT))], [(0, .blk 25 (noteX (List.replicate 16 0) 0 0 0)), (1, .blk 73 [.vs cR.length (I .u8 cR), .i .i64 eR]), (2, .blk 73 [.vs (D ζ).length (I .u8 (D ζ)), .i .i64 (G ζ)]), (3, .blk 25 (noteX (idN Y 16 16) (pV V ζ 0) (pV V ζ 1) (pV V ζ 2)))]⟩) (fun ζ => ζ ≤ 3) (fun ζ => 3 - ζ) (0) (Nat.zero_le _) (weak (fun k => k) (.cons rfl (by first | rfl | simp) (by show _ < _; decide) (.cons rfl (by first | rfl | exact congrArg (AV.i _) (by omega) | exact congrArg (AV.i _) (by simp; omega)) trivial (.cons rfl (by first | rfl | simp) trivial (.cons rfl (by first | rfl | simp) (by show _ < _; decide) (.cons rfl ren_vsI (by first | exact inSL_I _ | simp) (.cons rfl (by first | rfl | exact congrArg (AV.i _) (by omega) | exact congrArg (AV.i _) (by simp; omega)) trivial (.cons rfl (by first | rfl | simp) (by show _ < _; decide) (.cons rfl (by first | rfl | simp) (by show _ < _; decide) (.cons rfl rfl (by simp) (.cons rfl rfl trivial (.cons rfl rfl trivial (.cons rfl (by first | exact ren_agI | exact ren_vsI | exact ren_free _ _ (by first | exact inSL_I _ | simp)) (by first | exact inSL_I _ | simp) .nil)))))))))))) (.cons rfl ren_noteB rfl (by first | exact inSL_I _ | simp) (.cons rfl (Blk.ren_free (by simp) _) rfl (by first | exact inSL_I _ | simp) (.cons rfl ((Blk.ren_free (by simp) _).trans (by rw [hD0, hG0])) rfl (by first | exact inSL_I _ | simp) (.cons rfl (ren_noteB.trans (by simp [pV_zero])) rfl (by first | exact inSL_I _ | simp) .nil)))) rfl rfl rfl) ?_
    intro j hR
    replace hR : j ≤ 3 := hR
    first | show W _ _ _ ⟨4, [(2, .p 0 0), (3, .i .i64 0), (4, .b false), (5, .p 1 0), (6, .vs (C 0).length (I .u8 (C 0))), (7, .i .i64 lf), (8, .p 2 0), (9, .p 3 0), (34, .vs 3 [.p 3 16, .p 3 17, .p 3 18]), (35, .i .i64 3), (36, .i .i64 j), (1000000, .rp (I .u32 nibT))], [(0, .blk 25 (noteX (List.replicate 16 0) 0 0 0)), (1, .blk 73 [.vs cR.length (I .u8 cR), .i .i64 eR]), (2, .blk 73 [.vs (D j).length (I .u8 (D j)), .i .i64 (G j)]), (3, .blk 25 (noteX (idN Y 16 16) (pV V j 0) (pV V j 1) (pV V j 2)))]⟩ | skip
    refine wsr ?_
    refine wp rfl hC (ox_cmp hC rfl (.tmp rfl) (.tmp rfl) rfl rfl rfl) ?_
    refine WL_nil ?_
    refine W_seq ?_
    refine W_cond rfl (by decide) (fun hc => ?_) (fun hc => ?_)
    ·
      replace hc := lss_t hc
      
      refine W_skip ?_
      refine W_seq ?_
      refine W_blk ?_
      refine W_seq ?_
      rcases (show j = 0 ∨ j = 1 ∨ j = 2 by omega) with hj | hj | hj
      ·
        refine W_region ?_
        refine wp rfl hC (ox_indexS hC (j := 0) (.tmp rfl) (.tmp rfl) idx_66 (by omega) (by first | exact Nat.mul_one _ | rfl) (by first | exact .row rfl | exact .sl (Nat.zero_add _) | exact .sl rfl | exact .vs (by first | omega | (simp <;> fail) | (simp; omega))) (by decide) rfl rfl) ?_
        refine wp rfl hC (oc_load hC (v := .p 3 16) (.tmp rfl) (by first | exact .p rfl | exact .rp) shp_65 (by exact (unit_c rfl (by simp))) rfl rfl) ?_
        refine wp rfl hC (oc_assign hC (.tmp rfl) rfl rfl) ?_
        refine WL_nil ?_
        refine W_region ?_
        refine wp rfl hC (oc_move hC (.tmp rfl) rfl rfl) ?_
        refine wp rfl hC (oc_move hC (.tmp rfl) rfl rfl) ?_
        refine wp rfl hC (oc_callG (τ := fun k => bif Nat.beq k 0 then 2 else k) (N' := 4) hC .func (.cons (.tmp rfl) (.cons .cint .nil)) (.own (by first | rfl | simp) (.v1 (.free (by first | exact inSL_I _ | simp)) .end)) (num_u (D j) (D (j + 1)) (G j) (G (j + 1)) (hnk j (by omega)).1 (by have := (hnk j (by omega)).2; omega) 1099511627775 (V j) (hN j (by omega))) glob_nil (mr_cons (by first | exact ren_blkI | exact ren_rowI | exact Blk.ren_free (by simp) _ | rfl) rfl mr_nil) (mr_cons (by first | exact ren_blkI | exact ren_rowI | exact Blk.ren_free (by simp) _ | rfl) rfl mr_nil) rfl (rd_cons rfl rd_nil) rfl rfl rfl rfl (by first | exact .inl rfl | exact .inr ⟨by simp, (nv_cons (by first | exact novsL_I _ | simp) nv_nil)⟩) rfl (dst_ok rfl rfl) (fun t => setE_cons _ _ _ _)) ?_
        refine wp rfl hC (oc_nilCheck hC (.tmp rfl) rfl rfl) ?_
        refine wp rfl hC (ox_store (bk' := .blk 25 (noteX (idN Y 16 16) (V j) (pV V j 1) (pV V j 2))) hC (.tmp rfl) (.tmp rfl) rfl shp_3 (by first | rfl | exact flat_agI) (by first | exact cells1 rfl | (rw [cells_ag, length_I]; omega) | rfl | (simp <;> fail) | (simp; omega)) (by show _ ≤ (noteX _ _ _ _).length; rw [length_noteX hid]; decide) (put_nx hid) (by first | exact .here | exact .s1 rfl | exact .s2 rfl rfl | exact .s3 rfl rfl rfl | exact .s4 rfl rfl rfl rfl | exact .s5 rfl rfl rfl rfl rfl | exact .s6 rfl rfl rfl rfl rfl rfl | exact .s7 rfl rfl rfl rfl rfl rfl rfl | exact .s8 rfl rfl rfl rfl rfl rfl rfl rfl) rfl) ?_
        refine WL_nil ?_
        refine W_region ?_
        refine wp rfl hC (oc_bin hC rfl (.tmp rfl) .cint (by first | exact i64_add (by omega) | rfl) rfl rfl) ?_
        refine wp rfl hC (oc_move hC (.tmp rfl) rfl rfl) ?_
        refine WL_nil ?_
        exact ⟨(j + 1), (by omega), (weak (fun k => k) (.cons rfl (by first | rfl | simp) (by show _ < _; decide) (.cons rfl (by first | rfl | exact congrArg (AV.i _) (by omega) | exact congrArg (AV.i _) (by simp; omega)) trivial (.cons rfl (by first | rfl | simp) trivial (.cons rfl (by first | rfl | simp) (by show _ < _; decide) (.cons rfl ren_vsI (by first | exact inSL_I _ | simp) (.cons rfl (by first | rfl | exact congrArg (AV.i _) (by omega) | exact congrArg (AV.i _) (by simp; omega)) trivial (.cons rfl (by first | rfl | simp) (by show _ < _; decide) (.cons rfl (by first | rfl | simp) (by show _ < _; decide) (.cons rfl rfl (by simp) (.cons rfl (by first | rfl | exact congrArg (AV.i _) (by omega) | exact congrArg (AV.i _) (by simp; omega)) trivial (.cons rfl (by first | rfl | exact congrArg (AV.i _) (by omega) | exact congrArg (AV.i _) (by simp; omega)) trivial (.cons rfl (by first | exact ren_agI | exact ren_vsI | exact ren_free _ _ (by first | exact inSL_I _ | simp)) (by first | exact inSL_I _ | simp) .nil)))))))))))) (.cons rfl ren_noteB rfl (by first | exact inSL_I _ | simp) (.cons rfl (Blk.ren_free (by simp) _) rfl (by first | exact inSL_I _ | simp) (.cons rfl (Blk.ren_free (by simp) _) rfl (by first | exact inSL_I _ | simp) (.cons rfl (ren_noteB.trans (by unfold pV; simp [hj])) rfl (by first | exact inSL_I _ | simp) .nil)))) rfl rfl rfl), (by omega)⟩
      ·
        refine W_region ?_
        refine wp rfl hC (ox_indexS hC (j := 1) (.tmp rfl) (.tmp rfl) idx_66 (by omega) (by first | exact Nat.mul_one _ | rfl) (by first | exact .row rfl | exact .sl (Nat.zero_add _) | exact .sl rfl | exact .vs (by first | omega | (simp <;> fail) | (simp; omega))) (by decide) rfl rfl) ?_
        refine wp rfl hC (oc_load hC (v := .p 3 17) (.tmp rfl) (by first | exact .p rfl | exact .rp) shp_65 (by exact (unit_c rfl (by simp))) rfl rfl) ?_
        refine wp rfl hC (oc_assign hC (.tmp rfl) rfl rfl) ?_
        refine WL_nil ?_
        refine W_region ?_
        refine wp rfl hC (oc_move hC (.tmp rfl) rfl rfl) ?_
        refine wp rfl hC (oc_move hC (.tmp rfl) rfl rfl) ?_
        refine wp rfl hC (oc_callG (τ := fun k => bif Nat.beq k 0 then 2 else k) (N' := 4) hC .func (.cons (.tmp rfl) (.cons .cint .nil)) (.own (by first | rfl | simp) (.v1 (.free (by first | exact inSL_I _ | simp)) .end)) (num_u (D j) (D (j + 1)) (G j) (G (j + 1)) (hnk j (by omega)).1 (by have := (hnk j (by omega)).2; omega) 1099511627775 (V j) (hN j (by omega))) glob_nil (mr_cons (by first | exact ren_blkI | exact ren_rowI | exact Blk.ren_free (by simp) _ | rfl) rfl mr_nil) (mr_cons (by first | exact ren_blkI | exact ren_rowI | exact Blk.ren_free (by simp) _ | rfl) rfl mr_nil) rfl (rd_cons rfl rd_nil) rfl rfl rfl rfl (by first | exact .inl rfl | exact .inr ⟨by simp, (nv_cons (by first | exact novsL_I _ | simp) nv_nil)⟩) rfl (dst_ok rfl rfl) (fun t => setE_cons _ _ _ _)) ?_
        refine wp rfl hC (oc_nilCheck hC (.tmp rfl) rfl rfl) ?_
        refine wp rfl hC (ox_store (bk' := .blk 25 (noteX (idN Y 16 16) (pV V j 0) (V j) (pV V j 2))) hC (.tmp rfl) (.tmp rfl) rfl shp_3 (by first | rfl | exact flat_agI) (by first | exact cells1 rfl | (rw [cells_ag, length_I]; omega) | rfl | (simp <;> fail) | (simp; omega)) (by show _ ≤ (noteX _ _ _ _).length; rw [length_noteX hid]; decide) (put_nv hid) (by first | exact .here | exact .s1 rfl | exact .s2 rfl rfl | exact .s3 rfl rfl rfl | exact .s4 rfl rfl rfl rfl | exact .s5 rfl rfl rfl rfl rfl | exact .s6 rfl rfl rfl rfl rfl rfl | exact .s7 rfl rfl rfl rfl rfl rfl rfl | exact .s8 rfl rfl rfl rfl rfl rfl rfl rfl) rfl) ?_
        refine WL_nil ?_
        refine W_region ?_
        refine wp rfl hC (oc_bin hC rfl (.tmp rfl) .cint (by first | exact i64_add (by omega) | rfl) rfl rfl) ?_
        refine wp rfl hC (oc_move hC (.tmp rfl) rfl rfl) ?_
        refine WL_nil ?_
        exact ⟨(j + 1), (by omega), (weak (fun k => k) (.cons rfl (by first | rfl | simp) (by show _ < _; decide) (.cons rfl (by first | rfl | exact congrArg (AV.i _) (by omega) | exact congrArg (AV.i _) (by simp; omega)) trivial (.cons rfl (by first | rfl | simp) trivial (.cons rfl (by first | rfl | simp) (by show _ < _; decide) (.cons rfl ren_vsI (by first | exact inSL_I _ | simp) (.cons rfl (by first | rfl | exact congrArg (AV.i _) (by omega) | exact congrArg (AV.i _) (by simp; omega)) trivial (.cons rfl (by first | rfl | simp) (by show _ < _; decide) (.cons rfl (by first | rfl | simp) (by show _ < _; decide) (.cons rfl rfl (by simp) (.cons rfl (by first | rfl | exact congrArg (AV.i _) (by omega) | exact congrArg (AV.i _) (by simp; omega)) trivial (.cons rfl (by first | rfl | exact congrArg (AV.i _) (by omega) | exact congrArg (AV.i _) (by simp; omega)) trivial (.cons rfl (by first | exact ren_agI | exact ren_vsI | exact ren_free _ _ (by first | exact inSL_I _ | simp)) (by first | exact inSL_I _ | simp) .nil)))))))))))) (.cons rfl ren_noteB rfl (by first | exact inSL_I _ | simp) (.cons rfl (Blk.ren_free (by simp) _) rfl (by first | exact inSL_I _ | simp) (.cons rfl (Blk.ren_free (by simp) _) rfl (by first | exact inSL_I _ | simp) (.cons rfl (ren_noteB.trans (by unfold pV; simp [hj])) rfl (by first | exact inSL_I _ | simp) .nil)))) rfl rfl rfl), (by omega)⟩
      ·
        refine W_region ?_
        refine wp rfl hC (ox_indexS hC (j := 2) (.tmp rfl) (.tmp rfl) idx_66 (by omega) (by first | exact Nat.mul_one _ | rfl) (by first | exact .row rfl | exact .sl (Nat.zero_add _) | exact .sl rfl | exact .vs (by first | omega | (simp <;> fail) | (simp; omega))) (by decide) rfl rfl) ?_
        refine wp rfl hC (oc_load hC (v := .p 3 18) (.tmp rfl) (by first | exact .p rfl | exact .rp) shp_65 (by exact (unit_c rfl (by simp))) rfl rfl) ?_
        refine wp rfl hC (oc_assign hC (.tmp rfl) rfl rfl) ?_
        refine WL_nil ?_
        refine W_region ?_
        refine wp rfl hC (oc_move hC (.tmp rfl) rfl rfl) ?_
        refine wp rfl hC (oc_move hC (.tmp rfl) rfl rfl) ?_
        refine wp rfl hC (oc_callG (τ := fun k => bif Nat.beq k 0 then 2 else k) (N' := 4) hC .func (.cons (.tmp rfl) (.cons .cint .nil)) (.own (by first | rfl | simp) (.v1 (.free (by first | exact inSL_I _ | simp)) .end)) (num_u (D j) (D (j + 1)) (G j) (G (j + 1)) (hnk j (by omega)).1 (by have := (hnk j (by omega)).2; omega) 1099511627775 (V j) (hN j (by omega))) glob_nil (mr_cons (by first | exact ren_blkI | exact ren_rowI | exact Blk.ren_free (by simp) _ | rfl) rfl mr_nil) (mr_cons (by first | exact ren_blkI | exact ren_rowI | exact Blk.ren_free (by simp) _ | rfl) rfl mr_nil) rfl (rd_cons rfl rd_nil) rfl rfl rfl rfl (by first | exact .inl rfl | exact .inr ⟨by simp, (nv_cons (by first | exact novsL_I _ | simp) nv_nil)⟩) rfl (dst_ok rfl rfl) (fun t => setE_cons _ _ _ _)) ?_
        refine wp rfl hC (oc_nilCheck hC (.tmp rfl) rfl rfl) ?_
        refine wp rfl hC (ox_store (bk' := .blk 25 (noteX (idN Y 16 16) (pV V j 0) (pV V j 1) (V j))) hC (.tmp rfl) (.tmp rfl) rfl shp_3 (by first | rfl | exact flat_agI) (by first | exact cells1 rfl | (rw [cells_ag, length_I]; omega) | rfl | (simp <;> fail) | (simp; omega)) (by show _ ≤ (noteX _ _ _ _).length; rw [length_noteX hid]; decide) (put_ni hid) (by first | exact .here | exact .s1 rfl | exact .s2 rfl rfl | exact .s3 rfl rfl rfl | exact .s4 rfl rfl rfl rfl | exact .s5 rfl rfl rfl rfl rfl | exact .s6 rfl rfl rfl rfl rfl rfl | exact .s7 rfl rfl rfl rfl rfl rfl rfl | exact .s8 rfl rfl rfl rfl rfl rfl rfl rfl) rfl) ?_
        refine WL_nil ?_
        refine W_region ?_
        refine wp rfl hC (oc_bin hC rfl (.tmp rfl) .cint (by first | exact i64_add (by omega) | rfl) rfl rfl) ?_
        refine wp rfl hC (oc_move hC (.tmp rfl) rfl rfl) ?_
        refine WL_nil ?_
        exact ⟨(j + 1), (by omega), (weak (fun k => k) (.cons rfl (by first | rfl | simp) (by show _ < _; decide) (.cons rfl (by first | rfl | exact congrArg (AV.i _) (by omega) | exact congrArg (AV.i _) (by simp; omega)) trivial (.cons rfl (by first | rfl | simp) trivial (.cons rfl (by first | rfl | simp) (by show _ < _; decide) (.cons rfl ren_vsI (by first | exact inSL_I _ | simp) (.cons rfl (by first | rfl | exact congrArg (AV.i _) (by omega) | exact congrArg (AV.i _) (by simp; omega)) trivial (.cons rfl (by first | rfl | simp) (by show _ < _; decide) (.cons rfl (by first | rfl | simp) (by show _ < _; decide) (.cons rfl rfl (by simp) (.cons rfl (by first | rfl | exact congrArg (AV.i _) (by omega) | exact congrArg (AV.i _) (by simp; omega)) trivial (.cons rfl (by first | rfl | exact congrArg (AV.i _) (by omega) | exact congrArg (AV.i _) (by simp; omega)) trivial (.cons rfl (by first | exact ren_agI | exact ren_vsI | exact ren_free _ _ (by first | exact inSL_I _ | simp)) (by first | exact inSL_I _ | simp) .nil)))))))))))) (.cons rfl ren_noteB rfl (by first | exact inSL_I _ | simp) (.cons rfl (Blk.ren_free (by simp) _) rfl (by first | exact inSL_I _ | simp) (.cons rfl (Blk.ren_free (by simp) _) rfl (by first | exact inSL_I _ | simp) (.cons rfl (ren_noteB.trans (by unfold pV; simp [hj])) rfl (by first | exact inSL_I _ | simp) .nil)))) rfl rfl rfl), (by omega)⟩
    ·
      replace hc := lss_f hc
      obtain rfl : j = 3 := by omega
      rw [show pV V 3 0 = V 0 by simp [pV], show pV V 3 1 = V 1 by simp [pV], show pV V 3 2 = V 2 by simp [pV]]
      refine W_exit ?_
      refine wsr ?_
      refine wp rfl hC (oc_move hC (.tmp rfl) rfl rfl) ?_
      refine wp rfl hC (oc_callG (τ := fun k => bif Nat.beq k 0 then 2 else k) (N' := 4) hC .func (.cons (.tmp rfl) (.cons .cint .nil)) (.own (by first | rfl | simp) (.v1 (.free (by first | exact inSL_I _ | simp)) .end)) (fixr_u (D 3) cq (G 3) eq b3 (by omega) yq 4 hQ) glob_nil (mr_cons (by first | exact ren_blkI | exact ren_rowI | exact Blk.ren_free (by simp) _ | rfl) rfl mr_nil) (mr_cons (by first | exact ren_blkI | exact ren_rowI | exact Blk.ren_free (by simp) _ | rfl) rfl mr_nil) rfl (rd_cons rfl rd_nil) rfl rfl rfl rfl (by first | exact .inl rfl | exact .inr ⟨by simp, (nv_cons (by first | exact novsL_I _ | simp) nv_nil)⟩) rfl (dst_ok rfl rfl) (fun t => setE_cons _ _ _ _)) ?_
      refine WL_nil ?_
      refine W_seq ?_
      refine wsr ?_
      refine wp rfl hC (oc_move hC (.tmp rfl) rfl rfl) ?_
      refine wp rfl hC (oc_callG (τ := fun k => bif Nat.beq k 0 then 1 else k) (N' := 4) hC .func (.cons (.tmp rfl) .nil) (.own (by first | rfl | simp) .end) (err_c cR.length cR eR rfl f1 (by omega)) glob_nil (mr_cons (by first | exact ren_blkI | exact ren_rowI | exact Blk.ren_free (by simp) _ | rfl) rfl mr_nil) (mr_cons (by first | exact ren_blkI | exact ren_rowI | exact Blk.ren_free (by simp) _ | rfl) rfl mr_nil) rfl (rd_cons rfl rd_nil) rfl rfl rfl rfl (by first | exact .inl rfl | exact .inr ⟨by simp, (nv_cons (by first | exact novsL_I _ | simp) nv_nil)⟩) rfl (dst_ok rfl rfl) (fun t => setE_cons _ _ _ _)) ?_
      refine wp rfl hC (ox_cmp hC rfl (.tmp rfl) .cint (r := false) (by simp only [cmpI]; exact decide_eq_false (fun hne => hne h1)) rfl rfl) ?_
      refine wp rfl hC (oc_move hC (.tmp rfl) rfl rfl) ?_
      refine WL_cons hC.fn (.yes rfl rfl (by decide) rfl (oc_move hC (.tmp rfl) rfl rfl)) ?_
      refine WL_cons hC.fn (.yes rfl rfl (by decide) rfl (oc_callG (τ := fun k => bif Nat.beq k 0 then 2 else k) (N' := 4) hC .func (.cons (.tmp rfl) .nil) (.own (by first | rfl | simp) .end) (end_c cq.length cq eq rfl bq (by omega) ev hev) glob_nil (mr_cons (by first | exact ren_blkI | exact ren_rowI | exact Blk.ren_free (by simp) _ | rfl) rfl mr_nil) (mr_cons (by first | exact ren_blkI | exact ren_rowI | exact Blk.ren_free (by simp) _ | rfl) rfl mr_nil) rfl (rd_cons rfl rd_nil) rfl rfl rfl rfl (by first | exact .inl rfl | exact .inr ⟨by simp, (nv_cons (by first | exact novsL_I _ | simp) nv_nil)⟩) rfl (dst_ok rfl rfl) (fun t => setE_cons _ _ _ _))) ?_
      refine WL_cons hC.fn (.yes rfl rfl (by decide) rfl (ox_cmp hC rfl (.tmp rfl) .cint (r := false) (by simp only [cmpI]; exact decide_eq_false (fun hne => hne h2)) rfl rfl)) ?_
      refine wp rfl hC (ox_pick hC (.tmp rfl) .cbool (.tmp rfl) (by first | exact pick_t | exact pick_f | rfl) rfl rfl) ?_
      refine wp rfl hC (oc_move hC (.tmp rfl) rfl rfl) ?_
      refine WL_cons hC.fn (.yes rfl rfl (by decide) rfl (oc_load hC (.tmp rfl) (by first | exact .p rfl | exact .rp) shp_25 (by exact (unit_nall hid)) rfl rfl)) ?_
      refine WL_cons hC.fn (.yes rfl rfl (by decide) rfl (oc_call hC (.cons (.tmp rfl) .nil) (.cons1 (.free (by first | exact inSL_I _ | simp)) (.same (by first | exact inSL_I _ | simp))) (nright_t (idN Y 16 16) (V 0) (V 1) (V 2) hid bid hRt) glob_nil (by first | exact inSL_I _ | simp) (by first | exact .inl rfl | exact .inr (by simp)) rfl rfl)) ?_
      refine WL_cons hC.fn (.yes rfl rfl (by decide) rfl (oc_not hC (.tmp rfl) rfl rfl)) ?_
      refine wp rfl hC (ox_pick hC (.tmp rfl) .cbool (.tmp rfl) (by first | exact pick_t | exact pick_f | rfl) rfl rfl) ?_
      refine wp rfl hC (oc_move hC (.tmp rfl) rfl rfl) ?_
      refine WL_cons hC.fn (.yes rfl rfl (by decide) rfl (oc_load hC (.tmp rfl) (by first | exact .p rfl | exact .rp) shp_25 (by exact (unit_nall hid)) rfl rfl)) ?_
      refine WL_cons hC.fn (.yes rfl rfl (by decide) rfl (oc_callN hC (.cons (.tmp rfl) .nil) (.cons1 (.free (by first | exact inSL_I _ | simp)) (.same (by first | exact inSL_I _ | simp))) (nenc_c (idN Y 16 16) (V 0) (V 1) (V 2) hid bid hRt) (glob_cons rfl rfl (by first | exact inSL_I _ | simp) glob_nil) (by first | exact inSL_I _ | simp) rfl (by first | exact .inl rfl | exact .inr ⟨by simp, novsL_I _⟩ | exact .inr ⟨by simp, by simp⟩) rfl rfl)) ?_
      refine WL_cons hC.fn (.yes rfl rfl (by decide) rfl (oc_move hC (.tmp rfl) rfl rfl)) ?_
      refine WL_cons hC.fn (.yes rfl rfl (by decide) rfl (oc_call hC (.cons (.tmp rfl) (.cons (.tmp rfl) .nil)) (.cons1 (by first | exact .free (by first | exact inSL_I _ | simp) | exact .row rfl rfl (by first | exact inSL_I _ | simp) | exact .nils | exact .sl1 rfl (by first | exact cut_I | rfl) (by first | exact inSL_I _ | simp)) (.cons1 (by first | exact .free (by first | exact inSL_I _ | simp) | exact .row rfl rfl (by first | exact inSL_I _ | simp) | exact .nils | exact .sl1 rfl (by first | exact cut_I | rfl) (by first | exact inSL_I _ | simp)) (.same (by first | exact inSL_I _ | simp)))) (equal_c (nL (idN Y 16 16) (V 0) (V 1) (V 2)).length (C 0).length (nL (idN Y 16 16) (V 0) (V 1) (V 2)) (C 0) rfl rfl (by have := nL_le (x := V 0) (v := V 1) (i := V 2) hid; omega)) glob_nil (by first | exact inSL_I _ | simp) (by first | exact .inl rfl | exact .inr (by simp)) rfl rfl)) ?_
      rw [decide_eq_true hX]
      refine WL_cons hC.fn (.yes rfl rfl (by decide) rfl (oc_not hC (.tmp rfl) rfl rfl)) ?_
      refine wp rfl hC (ox_pick hC (.tmp rfl) .cbool (.tmp rfl) (by first | exact pick_t | exact pick_f | rfl) rfl rfl) ?_
      refine WL_nil ?_
      refine W_cond rfl (by decide) (fun hc => by cases hc) (fun _ => ?_)
      refine W_skip ?_
      refine wsr ?_
      refine wp rfl hC (oc_load hC (.tmp rfl) (by first | exact .p rfl | exact .rp) shp_25 (by exact (unit_nall hid)) rfl rfl) ?_
      refine wp rfl hC (oc_move hC (.tmp rfl) rfl rfl) ?_
      refine wp rfl hC (ox_store (bk' := .blk 25 (noteX (idN Y 16 16) (V 0) (V 1) (V 2))) hC (.tmp rfl) (.tmp rfl) rfl shp_25 flat_noteX (by rw [cells_ag, length_noteX hid]) (by show _ ≤ (noteX _ _ _ _).length; rw [length_noteX rfl]; decide) (put_nall rfl hid) (by first | exact .here | exact .s1 rfl | exact .s2 rfl rfl | exact .s3 rfl rfl rfl | exact .s4 rfl rfl rfl rfl | exact .s5 rfl rfl rfl rfl rfl | exact .s6 rfl rfl rfl rfl rfl rfl | exact .s7 rfl rfl rfl rfl rfl rfl rfl | exact .s8 rfl rfl rfl rfl rfl rfl rfl rfl) rfl) ?_
      refine wp rfl hC (oc_assign hC (.tmp rfl) rfl rfl) ?_
      refine wp rfl hC (oc_assign hC .cbool rfl rfl) ?_
      refine WL_nil ?_
      refine W_ret ?_
      exact fin0 (.cons (.cell rfl (.p rfl) shp_25 (unit_nall (by first | rfl | exact hid))) (.cons (.tmp rfl) (.cons (.tmp rfl) .nil))) rfl (by simp)
theorem nread_ok (d : NoteT) (r : List Int) (hd : NOK d) (br : B8 r) (hl : r.length ≤ 1099511627000) : FnC Tryd.prog 26 [(1000000, .rp (I .u32 nibT))] [.vs (nBd d ++ r).length (I .u8 (nBd d ++ r))] [] [] (.tu [.ag (noteX d.id d.nx d.vo d.it), .i .i64 r.length, .b true]) := by
  obtain ⟨h1, h2, h3⟩ := hd
  have hl41 := nL_le (x := d.nx) (v := d.vo) (i := d.it) h1
  obtain ⟨C, E, Y, D, G, V, yq, q1, q2, q3, q4, q5, q6, q7, q8, q9, q10, q11, q12⟩ := note_data (r := r) h1 h2 h3
  have hI : idN Y 16 16 = d.id := by rw [← q8]; unfold idP; rfl
  have h := nread_c (nBd d ++ r) (B8_append (B8_nB h1 h2 h3) br) (by have := length_nB (x := d.nx) (v := d.vo) (i := d.it) h1; unfold nBd; rw [List.length_append]; omega) 0 r C E Y D G V 0 [] yq q1 q2 q3 q4 q5 q6 q7 r.length 0 (.inl ⟨rfl, rfl⟩) (.inr (.inl ⟨rfl, rfl, rfl⟩)) rfl rfl (by rw [q9, q10, q11]; exact h3) (by rw [hI, q9, q10, q11, q12])
  rw [hI, q9, q10, q11] at h
  exact h
theorem nread_no (b : List Int) (bb : B8 b) (hl : b.length ≤ 1099511627776) (hno : NoN b) : FnC Tryd.prog 26 [(1000000, .rp (I .u32 nibT))] [.vs b.length (I .u8 b)] [] [] (.tu [.ag (noteX (List.replicate 16 0) 0 0 0), .i .i64 0, .b false]) := by
  obtain ⟨eR, cR, x, hB⟩ := bytesS_ex b 0 64
  obtain ⟨C, E, Y, rfl, hE, hF⟩ := chain_ex 16 x 0
  obtain ⟨D, G, V, hD, hG, hN⟩ := nums_ex 3 1099511627775 (C 16) (E 16)
  obtain ⟨eq, cq, yq, hQ⟩ := fixS_ex (D 3) (G 3) 4
  obtain ⟨ev, hev⟩ : ∃ ev : Int, (eq = 0 ∧ 0 < cq.length ∧ ev = 5) ∨ (eq = 0 ∧ cq.length = 0 ∧ ev = 0) ∨ (eq ≠ 0 ∧ ev = eq) := by
    by_cases h : eq = 0
    · rcases Nat.eq_zero_or_pos cq.length with h2 | h2
      · exact ⟨0, .inr (.inl ⟨h, h2, rfl⟩)⟩
      · exact ⟨5, .inl ⟨h, h2, rfl⟩⟩
    · exact ⟨eq, .inr (.inr ⟨h, rfl⟩)⟩
  obtain ⟨lf, hlf⟩ : ∃ lf : Int, (eR = 0 ∧ lf = cR.length) ∨ (eR ≠ 0 ∧ lf = 0) := by
    by_cases h : eR = 0
    · exact ⟨_, .inl ⟨h, rfl⟩⟩
    · exact ⟨0, .inr ⟨h, rfl⟩⟩
  refine nreadno_c b bb hl eR cR C E Y D G V eq cq yq hB hE hF hD hG hN hQ lf ev hlf hev ?_
  by_cases h1 : eR = 0
  case neg => exact .inl h1
  by_cases h2 : ev = 0
  case neg => exact .inr (.inl ⟨h1, h2⟩)
  by_cases h3 : RightN (V 0) (V 1) (V 2)
  case neg => exact .inr (.inr (.inl ⟨h1, h2, h3⟩))
  refine .inr (.inr (.inr ⟨h1, h2, h3, fun h4 => ?_⟩))
  obtain ⟨f1, f2, f3, f4⟩ := hB.facts bb
  have hch := chain_ok' (c0 := C 0) (Nat.le_refl _) hF f3
  have hb := (hB.inv bb h1).2
  refine hno ⟨idN Y 16 16, V 0, V 1, V 2⟩ cR ⟨length_idN Y (Nat.le_refl 16), B8_idN hF hch, h3⟩ ?_
  rw [hb, ← h4]
  unfold nBd nB
  rfl
end Go.Proofs.YtibldhfgapjpfaaDoor
