/- Own work, printed by a program of this claim: walks through functions of the program. -/
import Derived.Test.YtakjepiamjbnbaaW2
import Derived.Test.YtakjepiamjbnbaaProg
import Derived.KernelRfl
set_option linter.unusedSimpArgs false
set_option linter.unusedVariables false
namespace Go.Proofs.Ytakjepiamjbnbaa
open Go.Sk Go.RowKit
attribute [local simp] AV.inSL AV.inS inSL_I Blk.inS Blk.cs AV.novs AV.novsL novsL_I AV.ren AV.cells AV.one lk tuAV
theorem bytes_3 : (Try.prog.info? 3).map (·.bytes) = some 8 := by kernel_rfl
theorem cells_3 : Try.prog.cellsOf 3 = 1 := by kernel_rfl

theorem num_u (b b1 : List Int) (e e1 : Int) (hb8 : B8 b) (hl : b.length ≤ 1099511627776) (most v : Int) (hN : NumS b e most e1 b1 v) : FnC Try.prog 12 [] [.p 0 0, .i .i64 most] [(0, .blk 62 [.vs b.length (I .u8 b), .i .i64 e])] [(0, .blk 62 [.vs b1.length (I .u8 b1), .i .i64 e1])] (.i .i64 v) := by
  cases hN with
  | err he => exact numerr_c _ b e rfl hb8 hl most he
  | go he hR =>
    cases hR with
    | long h =>
      have hix := ix7_le b
      rcases Nat.lt_or_ge (ix7 b) b.length with h1 | h1
      · exact numlongA_c _ b e rfl hb8 hl most he h h1
      · exact numlongB_c _ b e rfl hb8 hl most he h (by omega)
    | short h h6 => exact numshort_c _ b e rfl hb8 hl most he h h6
    | nought h h6 h0 hz => rw [List.length_drop]; exact numnought_c _ b e rfl hb8 hl most he h h6 h0 hz
    | great h h6 hz hm => rw [List.length_drop]; exact numgreat_c _ b e rfl hb8 hl most he h h6 hz (by omega)
    | ok h h6 hz hm => rw [List.length_drop]; subst he; exact num_c _ b 0 rfl hb8 hl most rfl h h6 hz hm
theorem fixr_u (b b1 : List Int) (e e1 : Int) (hb8 : B8 b) (hl : b.length ≤ 1099511627776) (x : List Int) (width : Int) (hN : FixS b e width e1 b1 x) : FnC Try.prog 17 [] [.p 0 0, .i .i64 width] [(0, .blk 62 [.vs b.length (I .u8 b), .i .i64 e])] [(0, .blk 62 [.vs b1.length (I .u8 b1), .i .i64 e1])] (.i .u64 (vle x)) := by
  cases hN with
  | err he =>
    rcases (show (width < 0 ∨ (0 ≤ width ∧ 8 < width)) ∨ (0 ≤ width ∧ width ≤ 8) by omega) with h | h
    · rw [vle_nil]; exact fixrange_c _ b e rfl hb8 hl width e h (.inr ⟨he, rfl⟩)
    · obtain ⟨wd, rfl⟩ := Int.eq_ofNat_of_zero_le h.1
      exact fixrerr_c _ b e rfl hb8 hl wd (by omega) he
  | range he hw => rw [vle_nil]; exact fixrange_c _ b e rfl hb8 hl width 3 hw (.inl ⟨he, rfl⟩)
  | short wd he hw h8 hk => subst hw; exact fixrshort_c _ b e rfl hb8 hl wd h8 he hk
  | ok wd he hw h8 hk => subst hw; rw [List.length_drop]; subst he; exact fixr_c _ b 0 rfl hb8 hl wd h8 rfl hk
set_option maxRecDepth 20000 in
set_option maxHeartbeats 4000000 in
theorem bytesuerr_c (b b1 : List Int) (e e1 : Int) (hb8 : B8 b) (hl : b.length ≤ 1099511627776) (most v : Int) (hN : NumS b e most e1 b1 v) (he : e1 ≠ 0) : FnC Try.prog 25 [] [.p 0 0, .i .i64 most] [(0, .blk 62 [.vs b.length (I .u8 b), .i .i64 e])] [(0, .blk 62 [.vs b1.length (I .u8 b1), .i .i64 e1])] (.nils) := by
  have h18 := hN.b8 hb8
  have hln := hN.len
  refine FnC.introR (N0 := 1) (T := 10) (E := [(0, .p 0 0), (1, .i .i64 most)]) Try.func25 rfl (by decide) mix rfl rfl rfl (by simp) rfl ⟨(by first | exact inSL_I _ | trivial | simp), (by first | exact inSL_I _ | trivial | simp), trivial⟩ (by intro k b hm; simp only [List.mem_cons, Prod.mk.injEq, List.not_mem_nil, or_false] at hm; rcases hm with ⟨rfl, rfl⟩ <;> exact ⟨by decide, by first | exact inSL_I _ | simp⟩) (by
        intro S ha hr hw
        have s0 : S 0 := (hr 0 _ List.mem_cons_self).1
        refine ⟨by first | exact inSL_I _ | simp [s0], fun k b hm => ?_⟩
        simp only [List.mem_cons, Prod.mk.injEq, List.not_mem_nil, or_false] at hm
        rcases hm with ⟨rfl, rfl⟩
        · exact ⟨s0, by first | exact inSL_I _ | simp [s0]⟩) (fun F n0 X w ρ hC hro => ?_)
  refine W_seq ?_
  refine W_region ?_
  refine WL_cons hC.fn (.plain rfl (oc_assign hC .cnils rfl rfl)) ?_
  refine WL_nil ?_
  refine W_seq ?_
  refine W_region ?_
  refine WL_cons hC.fn (.plain rfl (oc_move hC (.tmp rfl) rfl rfl)) ?_
  refine WL_cons hC.fn (.plain rfl (oc_move hC (.tmp rfl) rfl rfl)) ?_
  refine WL_cons hC.fn (.plain rfl (oc_move hC (.tmp rfl) rfl rfl)) ?_
  refine WL_cons hC.fn (.plain rfl (oc_callG (τ := fun k => bif Nat.beq k 0 then 0 else k) (N' := 1) hC .func (.cons (.tmp rfl) (.cons (.tmp rfl) .nil)) (.own (by first | rfl | simp) (.v1 (.free (by first | exact inSL_I _ | simp)) .end)) (num_u b b1 e e1 hb8 hl most v hN) glob_nil (mr_cons (by first | exact ren_blkI | exact ren_rowI | exact Blk.ren_free (by simp) _ | rfl) rfl mr_nil) (mr_cons (by first | exact ren_blkI | exact ren_rowI | exact Blk.ren_free (by simp) _ | rfl) rfl mr_nil) rfl (rd_cons rfl rd_nil) rfl rfl rfl rfl (by first | exact .inl rfl | exact .inr ⟨by simp, (nv_cons (by first | exact novsL_I _ | simp) nv_nil)⟩) rfl (dst_ok rfl rfl) (fun t => setE_cons _ _ _ _))) ?_
  refine WL_cons hC.fn (.plain rfl (oc_callG (τ := fun k => bif Nat.beq k 0 then 0 else k) (N' := 1) hC .func (.cons (.tmp rfl) (.cons (.tmp rfl) .nil)) (.own (by first | rfl | simp) (.v1 (.free (by first | exact inSL_I _ | simp)) .end)) (takeerr_c b1.length b1 e1 rfl h18 (by omega) v he) glob_nil (mr_cons (by first | exact ren_blkI | exact ren_rowI | exact Blk.ren_free (by simp) _ | rfl) rfl mr_nil) (mr_cons (by first | exact ren_blkI | exact ren_rowI | exact Blk.ren_free (by simp) _ | rfl) rfl mr_nil) rfl (rd_cons rfl rd_nil) rfl rfl rfl rfl (by first | exact .inl rfl | exact .inr ⟨by simp, (nv_cons (by first | exact novsL_I _ | simp) nv_nil)⟩) rfl (dst_ok rfl rfl) (fun t => setE_cons _ _ _ _))) ?_
  refine WL_cons hC.fn (.plain rfl (oc_assign hC (.tmp rfl) rfl rfl)) ?_
  refine WL_nil ?_
  refine W_ret ?_
  exact finK (fun k => k) (.cons (.tmp rfl) .nil) rfl (wr_cons rfl (Blk.ren_free (by simp) _) wr_nil) rfl rfl
set_option maxRecDepth 20000 in
set_option maxHeartbeats 4000000 in
theorem bytesushort_c (b b1 : List Int) (e e1 : Int) (hb8 : B8 b) (hl : b.length ≤ 1099511627776) (most v : Int) (hN : NumS b e most e1 b1 v) (he : e1 = 0) (k : Nat) (hk : v = k) (hs : b1.length < k) : FnC Try.prog 25 [] [.p 0 0, .i .i64 most] [(0, .blk 62 [.vs b.length (I .u8 b), .i .i64 e])] [(0, .blk 62 [.vs b1.length (I .u8 b1), .i .i64 2])] (.nils) := by
  have h18 := hN.b8 hb8
  have hln := hN.len
  refine FnC.introR (N0 := 1) (T := 10) (E := [(0, .p 0 0), (1, .i .i64 most)]) Try.func25 rfl (by decide) mix rfl rfl rfl (by simp) rfl ⟨(by first | exact inSL_I _ | trivial | simp), (by first | exact inSL_I _ | trivial | simp), trivial⟩ (by intro k b hm; simp only [List.mem_cons, Prod.mk.injEq, List.not_mem_nil, or_false] at hm; rcases hm with ⟨rfl, rfl⟩ <;> exact ⟨by decide, by first | exact inSL_I _ | simp⟩) (by
        intro S ha hr hw
        have s0 : S 0 := (hr 0 _ List.mem_cons_self).1
        refine ⟨by first | exact inSL_I _ | simp [s0], fun k b hm => ?_⟩
        simp only [List.mem_cons, Prod.mk.injEq, List.not_mem_nil, or_false] at hm
        rcases hm with ⟨rfl, rfl⟩
        · exact ⟨s0, by first | exact inSL_I _ | simp [s0]⟩) (fun F n0 X w ρ hC hro => ?_)
  refine W_seq ?_
  refine W_region ?_
  refine WL_cons hC.fn (.plain rfl (oc_assign hC .cnils rfl rfl)) ?_
  refine WL_nil ?_
  refine W_seq ?_
  refine W_region ?_
  refine WL_cons hC.fn (.plain rfl (oc_move hC (.tmp rfl) rfl rfl)) ?_
  refine WL_cons hC.fn (.plain rfl (oc_move hC (.tmp rfl) rfl rfl)) ?_
  refine WL_cons hC.fn (.plain rfl (oc_move hC (.tmp rfl) rfl rfl)) ?_
  refine WL_cons hC.fn (.plain rfl (oc_callG (τ := fun k => bif Nat.beq k 0 then 0 else k) (N' := 1) hC .func (.cons (.tmp rfl) (.cons (.tmp rfl) .nil)) (.own (by first | rfl | simp) (.v1 (.free (by first | exact inSL_I _ | simp)) .end)) (num_u b b1 e e1 hb8 hl most v hN) glob_nil (mr_cons (by first | exact ren_blkI | exact ren_rowI | exact Blk.ren_free (by simp) _ | rfl) rfl mr_nil) (mr_cons (by first | exact ren_blkI | exact ren_rowI | exact Blk.ren_free (by simp) _ | rfl) rfl mr_nil) rfl (rd_cons rfl rd_nil) rfl rfl rfl rfl (by first | exact .inl rfl | exact .inr ⟨by simp, (nv_cons (by first | exact novsL_I _ | simp) nv_nil)⟩) rfl (dst_ok rfl rfl) (fun t => setE_cons _ _ _ _))) ?_
  rw [hk]
  refine WL_cons hC.fn (.plain rfl (oc_callG (τ := fun k => bif Nat.beq k 0 then 0 else k) (N' := 1) hC .func (.cons (.tmp rfl) (.cons (.tmp rfl) .nil)) (.own (by first | rfl | simp) (.v1 (.free (by first | exact inSL_I _ | simp)) .end)) (takeshort_c b1.length b1 e1 rfl h18 (by omega) k he hs) glob_nil (mr_cons (by first | exact ren_blkI | exact ren_rowI | exact Blk.ren_free (by simp) _ | rfl) rfl mr_nil) (mr_cons (by first | exact ren_blkI | exact ren_rowI | exact Blk.ren_free (by simp) _ | rfl) rfl mr_nil) rfl (rd_cons rfl rd_nil) rfl rfl rfl rfl (by first | exact .inl rfl | exact .inr ⟨by simp, (nv_cons (by first | exact novsL_I _ | simp) nv_nil)⟩) rfl (dst_ok rfl rfl) (fun t => setE_cons _ _ _ _))) ?_
  refine WL_cons hC.fn (.plain rfl (oc_assign hC (.tmp rfl) rfl rfl)) ?_
  refine WL_nil ?_
  refine W_ret ?_
  exact finK (fun k => k) (.cons (.tmp rfl) .nil) rfl (wr_cons rfl (Blk.ren_free (by simp) _) wr_nil) rfl rfl
set_option maxRecDepth 20000 in
set_option maxHeartbeats 4000000 in
theorem bytesu_c (b b1 : List Int) (e e1 : Int) (hb8 : B8 b) (hl : b.length ≤ 1099511627776) (most v : Int) (hN : NumS b e most e1 b1 v) (he : e1 = 0) (k : Nat) (hk : v = k) (hs : k ≤ b1.length) : FnC Try.prog 25 [] [.p 0 0, .i .i64 most] [(0, .blk 62 [.vs b.length (I .u8 b), .i .i64 e])] [(0, .blk 62 [.vs (b1.length - k) (I .u8 (b1.drop k)), .i .i64 e1])] (.vs k (I .u8 (b1.take k))) := by
  have h18 := hN.b8 hb8
  have hln := hN.len
  refine FnC.introR (N0 := 1) (T := 10) (E := [(0, .p 0 0), (1, .i .i64 most)]) Try.func25 rfl (by decide) mix rfl rfl rfl (by simp) rfl ⟨(by first | exact inSL_I _ | trivial | simp), (by first | exact inSL_I _ | trivial | simp), trivial⟩ (by intro k b hm; simp only [List.mem_cons, Prod.mk.injEq, List.not_mem_nil, or_false] at hm; rcases hm with ⟨rfl, rfl⟩ <;> exact ⟨by decide, by first | exact inSL_I _ | simp⟩) (by
        intro S ha hr hw
        have s0 : S 0 := (hr 0 _ List.mem_cons_self).1
        refine ⟨by first | exact inSL_I _ | simp [s0], fun k b hm => ?_⟩
        simp only [List.mem_cons, Prod.mk.injEq, List.not_mem_nil, or_false] at hm
        rcases hm with ⟨rfl, rfl⟩
        · exact ⟨s0, by first | exact inSL_I _ | simp [s0]⟩) (fun F n0 X w ρ hC hro => ?_)
  refine W_seq ?_
  refine W_region ?_
  refine WL_cons hC.fn (.plain rfl (oc_assign hC .cnils rfl rfl)) ?_
  refine WL_nil ?_
  refine W_seq ?_
  refine W_region ?_
  refine WL_cons hC.fn (.plain rfl (oc_move hC (.tmp rfl) rfl rfl)) ?_
  refine WL_cons hC.fn (.plain rfl (oc_move hC (.tmp rfl) rfl rfl)) ?_
  refine WL_cons hC.fn (.plain rfl (oc_move hC (.tmp rfl) rfl rfl)) ?_
  refine WL_cons hC.fn (.plain rfl (oc_callG (τ := fun k => bif Nat.beq k 0 then 0 else k) (N' := 1) hC .func (.cons (.tmp rfl) (.cons (.tmp rfl) .nil)) (.own (by first | rfl | simp) (.v1 (.free (by first | exact inSL_I _ | simp)) .end)) (num_u b b1 e e1 hb8 hl most v hN) glob_nil (mr_cons (by first | exact ren_blkI | exact ren_rowI | exact Blk.ren_free (by simp) _ | rfl) rfl mr_nil) (mr_cons (by first | exact ren_blkI | exact ren_rowI | exact Blk.ren_free (by simp) _ | rfl) rfl mr_nil) rfl (rd_cons rfl rd_nil) rfl rfl rfl rfl (by first | exact .inl rfl | exact .inr ⟨by simp, (nv_cons (by first | exact novsL_I _ | simp) nv_nil)⟩) rfl (dst_ok rfl rfl) (fun t => setE_cons _ _ _ _))) ?_
  rw [hk]
  refine WL_cons hC.fn (.plain rfl (oc_callG (τ := fun k => bif Nat.beq k 0 then 0 else k) (N' := 1) hC .func (.cons (.tmp rfl) (.cons (.tmp rfl) .nil)) (.own (by first | rfl | simp) (.v1 (.free (by first | exact inSL_I _ | simp)) .end)) (take_c b1.length b1 e1 rfl h18 (by omega) k he hs) glob_nil (mr_cons (by first | exact ren_blkI | exact ren_rowI | exact Blk.ren_free (by simp) _ | rfl) rfl mr_nil) (mr_cons (by first | exact ren_blkI | exact ren_rowI | exact Blk.ren_free (by simp) _ | rfl) rfl mr_nil) ren_vsI (rd_cons rfl rd_nil) rfl rfl rfl rfl (by first | exact .inl rfl | exact .inr ⟨by simp, (nv_cons (by first | exact novsL_I _ | simp) nv_nil)⟩) rfl (dst_ok rfl rfl) (fun t => setE_cons _ _ _ _))) ?_
  refine WL_cons hC.fn (.plain rfl (oc_assign hC (.tmp rfl) rfl rfl)) ?_
  refine WL_nil ?_
  refine W_ret ?_
  exact finK (fun k => k) (.cons (.tmp rfl) .nil) ren_vsI (wr_cons rfl (Blk.ren_free (by simp) _) wr_nil) rfl rfl
theorem rread_u (b b1 : List Int) (e e1 : Int) (hb8 : B8 b) (hl : b.length ≤ 1099511627776) (bs : List Int) (most v : Int) (hN : NumS b e most e1 b1 v) (hbs : (e1 = 0 ∧ bs = b1) ∨ (e1 ≠ 0 ∧ bs = b)) : FnC Try.prog 23 [] [.ag [.vs b.length (I .u8 b), .i .i64 e], .i .i64 most] [] [] (.tu [.ag [.vs bs.length (I .u8 bs), .i .i64 e1], .i .i64 v]) := by
  cases hN with
  | err he =>
    obtain rfl : bs = b := by rcases hbs with h | h; exact absurd h.1 he; exact h.2
    exact rreaderr_c _ bs e rfl hb8 hl most he
  | go he hR =>
    cases hR with
    | long h =>
      obtain rfl : bs = b := by rcases hbs with h | h; exact h.2; exact h.2
      exact rreadlong_c _ bs e rfl hb8 hl most he h
    | short h h6 =>
      obtain rfl : bs = b := by rcases hbs with h | h; exact h.2; exact h.2
      exact rreadshort_c _ bs e rfl hb8 hl most he h h6
    | nought h h6 h0 hz =>
      obtain rfl : bs = b := by rcases hbs with h | h; exact absurd h.1 (by decide); exact h.2
      exact rreadnought_c _ bs e rfl hb8 hl most he h h6 h0 hz
    | great h h6 hz hm =>
      obtain rfl : bs = b := by rcases hbs with h | h; exact absurd h.1 (by decide); exact h.2
      exact rreadgreat_c _ bs e rfl hb8 hl most he h h6 hz (by omega)
    | ok h h6 hz hm =>
      obtain rfl : bs = b.drop (ix7 b + 1) := by rcases hbs with h | h; exact h.2; exact absurd rfl h.1
      rw [List.length_drop]; exact rread_c _ b e rfl hb8 hl most he h h6 hz hm
theorem rfix_u (b b1 : List Int) (e e1 : Int) (hb8 : B8 b) (hl : b.length ≤ 1099511627776) (x : List Int) (width : Int) (hN : FixS b e width e1 b1 x) : FnC Try.prog 26 [] [.ag [.vs b.length (I .u8 b), .i .i64 e], .i .i64 width] [] [] (.tu [.ag [.vs b1.length (I .u8 b1), .i .i64 e1], .i .u64 (vle x)]) := by
  cases hN with
  | err he => rw [vle_nil]; exact rrferr_c _ b e rfl hb8 hl width he
  | range he hw => rw [vle_nil]; exact rrfrange_c _ b e rfl hb8 hl width he hw
  | short wd he hw h8 hk => subst hw; rw [vle_nil]; exact rrfshort_c _ b e rfl hb8 hl wd he h8 hk
  | ok wd he hw h8 hk => subst hw; rw [List.length_drop]; exact rrf_c _ b e rfl hb8 hl wd he h8 hk
set_option maxRecDepth 20000 in
set_option maxHeartbeats 4000000 in
theorem rrberr_c (b b1 : List Int) (e e1 : Int) (hb8 : B8 b) (hl : b.length ≤ 1099511627776) (most v : Int) (hN : NumS b e most e1 b1 v) (he : e1 ≠ 0) : FnC Try.prog 24 [] [.ag [.vs b.length (I .u8 b), .i .i64 e], .i .i64 most] [] [] (.tu [.ag [.vs b.length (I .u8 b), .i .i64 e1], .nils]) := by
  have h18 := hN.b8 hb8
  have hln := hN.len
  refine FnC.introR (N0 := 0) (T := 19) (E := [(0, .ag [.vs b.length (I .u8 b), .i .i64 e]), (1, .i .i64 most)]) Try.func24 rfl (by decide) mix rfl rfl rfl (by simp) rfl ⟨(by first | exact inSL_I _ | trivial | simp), (by first | exact inSL_I _ | trivial | simp), trivial⟩ (by simp) (by intro S _ _ h; simp) (fun F n0 X w ρ hC hro => ?_)
  refine W_seq ?_
  refine W_region ?_
  refine WL_cons hC.fn (.plain rfl (ox_box hC (.tmp rfl) (by first | rfl | exact flat_agI) (by first | exact cells_ag | rfl) rfl rfl)) ?_
  refine WL_cons hC.fn (.plain rfl (ox_alloc hC zero_45 rfl rfl rfl)) ?_
  refine WL_cons hC.fn (.plain rfl (oc_assign hC .cnils rfl rfl)) ?_
  refine WL_nil ?_
  refine W_seq ?_
  refine W_region ?_
  refine WL_cons hC.fn (.plain rfl (oc_load hC (v := .ag [.vs b.length (I .u8 b), .i .i64 e]) (.tmp rfl) (by first | exact .p rfl | exact .rp) shp_45 (by exact (unit_agg rfl)) rfl rfl)) ?_
  refine WL_cons hC.fn (.plain rfl (oc_move hC (.tmp rfl) rfl rfl)) ?_
  refine WL_cons hC.fn (.plain rfl (oc_call hC (.cons (.tmp rfl) (.cons (.tmp rfl) .nil)) (.cons1 (.free (by first | exact inSL_I _ | simp)) (.cons1 (.free (by first | exact inSL_I _ | simp)) (.same (by first | exact inSL_I _ | simp)))) (rread_u b b1 e e1 hb8 hl b most v hN (.inr ⟨he, rfl⟩)) glob_nil (by first | exact inSL_I _ | simp) (by first | exact .inl rfl | exact .inr (by simp)) rfl rfl)) ?_
  refine WL_cons hC.fn (.plain rfl (oc_move hC (.tmp rfl) rfl rfl)) ?_
  refine WL_cons hC.fn (.plain rfl (oc_extract hC (.tmp rfl) rfl rfl rfl)) ?_
  refine WL_cons hC.fn (.plain rfl (oc_extract hC (.tmp rfl) rfl rfl rfl)) ?_
  refine WL_cons hC.fn (.plain rfl (ox_alloc hC zero_45 rfl rfl rfl)) ?_
  refine WL_cons hC.fn (.plain rfl (ox_store hC (.tmp rfl) (.tmp rfl) rfl shp_45 (by first | rfl | exact flat_agI) rfl (by first | exact Nat.le_refl _ | exact Nat.le_of_ble_eq_true rfl | decide | (simp <;> fail) | (simp; omega)) rfl (by first | exact .here | exact .there (.here) rfl | exact .there (.there (.here) rfl) rfl | exact .there (.there (.there (.here) rfl) rfl) rfl | exact .there (.there (.there (.there (.here) rfl) rfl) rfl) rfl | exact .there (.there (.there (.there (.there (.here) rfl) rfl) rfl) rfl) rfl | exact .there (.there (.there (.there (.there (.there (.here) rfl) rfl) rfl) rfl) rfl) rfl | exact .there (.there (.there (.there (.there (.there (.there (.here) rfl) rfl) rfl) rfl) rfl) rfl) rfl | exact .there (.there (.there (.there (.there (.there (.there (.there (.here) rfl) rfl) rfl) rfl) rfl) rfl) rfl) rfl | exact .there (.there (.there (.there (.there (.there (.there (.there (.there (.here) rfl) rfl) rfl) rfl) rfl) rfl) rfl) rfl) rfl) rfl)) ?_
  refine WL_cons hC.fn (.plain rfl (oc_assign hC (.tmp rfl) rfl rfl)) ?_
  refine WL_nil ?_
  refine W_seq ?_
  refine W_region ?_
  refine WL_cons hC.fn (.plain rfl (oc_load hC (v := .ag [.vs b.length (I .u8 b), .i .i64 e1]) (.tmp rfl) (by first | exact .p rfl | exact .rp) shp_45 (by exact (unit_agg rfl)) rfl rfl)) ?_
  refine WL_cons hC.fn (.plain rfl (oc_move hC (.tmp rfl) rfl rfl)) ?_
  refine WL_cons hC.fn (.plain rfl (oc_call hC (.cons (.tmp rfl) (.cons (.tmp rfl) .nil)) (.cons1 (.free (by first | exact inSL_I _ | simp)) (.cons1 (.free (by first | exact inSL_I _ | simp)) (.same (by first | exact inSL_I _ | simp)))) (rtakeerr_c b.length b e1 rfl hb8 hl v he) glob_nil (by first | exact inSL_I _ | simp) (by first | exact .inl rfl | exact .inr (by simp)) rfl rfl)) ?_
  refine WL_cons hC.fn (.plain rfl (oc_extract hC (.tmp rfl) rfl rfl rfl)) ?_
  refine WL_cons hC.fn (.plain rfl (oc_extract hC (.tmp rfl) rfl rfl rfl)) ?_
  refine WL_cons hC.fn (.plain rfl (ox_store hC (.tmp rfl) (.tmp rfl) rfl shp_45 (by first | rfl | exact flat_agI) rfl (by first | exact Nat.le_refl _ | exact Nat.le_of_ble_eq_true rfl | decide | (simp <;> fail) | (simp; omega)) rfl (by first | exact .here | exact .there (.here) rfl | exact .there (.there (.here) rfl) rfl | exact .there (.there (.there (.here) rfl) rfl) rfl | exact .there (.there (.there (.there (.here) rfl) rfl) rfl) rfl | exact .there (.there (.there (.there (.there (.here) rfl) rfl) rfl) rfl) rfl | exact .there (.there (.there (.there (.there (.there (.here) rfl) rfl) rfl) rfl) rfl) rfl | exact .there (.there (.there (.there (.there (.there (.there (.here) rfl) rfl) rfl) rfl) rfl) rfl) rfl | exact .there (.there (.there (.there (.there (.there (.there (.there (.here) rfl) rfl) rfl) rfl) rfl) rfl) rfl) rfl | exact .there (.there (.there (.there (.there (.there (.there (.there (.there (.here) rfl) rfl) rfl) rfl) rfl) rfl) rfl) rfl) rfl) rfl)) ?_
  refine WL_cons hC.fn (.plain rfl (oc_assign hC (.tmp rfl) rfl rfl)) ?_
  refine WL_nil ?_
  refine W_ret ?_
  exact fin0 (.cons (.cell rfl (.p rfl) shp_45 (unit_agg rfl)) (.cons (.tmp rfl) .nil)) rfl (by simp)
set_option maxRecDepth 20000 in
set_option maxHeartbeats 4000000 in
theorem rrbshort_c (b b1 : List Int) (e e1 : Int) (hb8 : B8 b) (hl : b.length ≤ 1099511627776) (most v : Int) (hN : NumS b e most e1 b1 v) (he : e1 = 0) (k : Nat) (hk : v = k) (hs : b1.length < k) : FnC Try.prog 24 [] [.ag [.vs b.length (I .u8 b), .i .i64 e], .i .i64 most] [] [] (.tu [.ag [.vs b1.length (I .u8 b1), .i .i64 2], .nils]) := by
  have h18 := hN.b8 hb8
  have hln := hN.len
  refine FnC.introR (N0 := 0) (T := 19) (E := [(0, .ag [.vs b.length (I .u8 b), .i .i64 e]), (1, .i .i64 most)]) Try.func24 rfl (by decide) mix rfl rfl rfl (by simp) rfl ⟨(by first | exact inSL_I _ | trivial | simp), (by first | exact inSL_I _ | trivial | simp), trivial⟩ (by simp) (by intro S _ _ h; simp) (fun F n0 X w ρ hC hro => ?_)
  refine W_seq ?_
  refine W_region ?_
  refine WL_cons hC.fn (.plain rfl (ox_box hC (.tmp rfl) (by first | rfl | exact flat_agI) (by first | exact cells_ag | rfl) rfl rfl)) ?_
  refine WL_cons hC.fn (.plain rfl (ox_alloc hC zero_45 rfl rfl rfl)) ?_
  refine WL_cons hC.fn (.plain rfl (oc_assign hC .cnils rfl rfl)) ?_
  refine WL_nil ?_
  refine W_seq ?_
  refine W_region ?_
  refine WL_cons hC.fn (.plain rfl (oc_load hC (v := .ag [.vs b.length (I .u8 b), .i .i64 e]) (.tmp rfl) (by first | exact .p rfl | exact .rp) shp_45 (by exact (unit_agg rfl)) rfl rfl)) ?_
  refine WL_cons hC.fn (.plain rfl (oc_move hC (.tmp rfl) rfl rfl)) ?_
  refine WL_cons hC.fn (.plain rfl (oc_call hC (.cons (.tmp rfl) (.cons (.tmp rfl) .nil)) (.cons1 (.free (by first | exact inSL_I _ | simp)) (.cons1 (.free (by first | exact inSL_I _ | simp)) (.same (by first | exact inSL_I _ | simp)))) (rread_u b b1 e e1 hb8 hl b1 most v hN (.inl ⟨he, rfl⟩)) glob_nil (by first | exact inSL_I _ | simp) (by first | exact .inl rfl | exact .inr (by simp)) rfl rfl)) ?_
  refine WL_cons hC.fn (.plain rfl (oc_move hC (.tmp rfl) rfl rfl)) ?_
  refine WL_cons hC.fn (.plain rfl (oc_extract hC (.tmp rfl) rfl rfl rfl)) ?_
  refine WL_cons hC.fn (.plain rfl (oc_extract hC (.tmp rfl) rfl rfl rfl)) ?_
  refine WL_cons hC.fn (.plain rfl (ox_alloc hC zero_45 rfl rfl rfl)) ?_
  refine WL_cons hC.fn (.plain rfl (ox_store hC (.tmp rfl) (.tmp rfl) rfl shp_45 (by first | rfl | exact flat_agI) rfl (by first | exact Nat.le_refl _ | exact Nat.le_of_ble_eq_true rfl | decide | (simp <;> fail) | (simp; omega)) rfl (by first | exact .here | exact .there (.here) rfl | exact .there (.there (.here) rfl) rfl | exact .there (.there (.there (.here) rfl) rfl) rfl | exact .there (.there (.there (.there (.here) rfl) rfl) rfl) rfl | exact .there (.there (.there (.there (.there (.here) rfl) rfl) rfl) rfl) rfl | exact .there (.there (.there (.there (.there (.there (.here) rfl) rfl) rfl) rfl) rfl) rfl | exact .there (.there (.there (.there (.there (.there (.there (.here) rfl) rfl) rfl) rfl) rfl) rfl) rfl | exact .there (.there (.there (.there (.there (.there (.there (.there (.here) rfl) rfl) rfl) rfl) rfl) rfl) rfl) rfl | exact .there (.there (.there (.there (.there (.there (.there (.there (.there (.here) rfl) rfl) rfl) rfl) rfl) rfl) rfl) rfl) rfl) rfl)) ?_
  rw [hk]
  refine WL_cons hC.fn (.plain rfl (oc_assign hC (.tmp rfl) rfl rfl)) ?_
  refine WL_nil ?_
  refine W_seq ?_
  refine W_region ?_
  refine WL_cons hC.fn (.plain rfl (oc_load hC (v := .ag [.vs b1.length (I .u8 b1), .i .i64 e1]) (.tmp rfl) (by first | exact .p rfl | exact .rp) shp_45 (by exact (unit_agg rfl)) rfl rfl)) ?_
  refine WL_cons hC.fn (.plain rfl (oc_move hC (.tmp rfl) rfl rfl)) ?_
  refine WL_cons hC.fn (.plain rfl (oc_call hC (.cons (.tmp rfl) (.cons (.tmp rfl) .nil)) (.cons1 (.free (by first | exact inSL_I _ | simp)) (.cons1 (.free (by first | exact inSL_I _ | simp)) (.same (by first | exact inSL_I _ | simp)))) (rtakeshort_c b1.length b1 e1 rfl h18 (by omega) k he hs) glob_nil (by first | exact inSL_I _ | simp) (by first | exact .inl rfl | exact .inr (by simp)) rfl rfl)) ?_
  refine WL_cons hC.fn (.plain rfl (oc_extract hC (.tmp rfl) rfl rfl rfl)) ?_
  refine WL_cons hC.fn (.plain rfl (oc_extract hC (.tmp rfl) rfl rfl rfl)) ?_
  refine WL_cons hC.fn (.plain rfl (ox_store hC (.tmp rfl) (.tmp rfl) rfl shp_45 (by first | rfl | exact flat_agI) rfl (by first | exact Nat.le_refl _ | exact Nat.le_of_ble_eq_true rfl | decide | (simp <;> fail) | (simp; omega)) rfl (by first | exact .here | exact .there (.here) rfl | exact .there (.there (.here) rfl) rfl | exact .there (.there (.there (.here) rfl) rfl) rfl | exact .there (.there (.there (.there (.here) rfl) rfl) rfl) rfl | exact .there (.there (.there (.there (.there (.here) rfl) rfl) rfl) rfl) rfl | exact .there (.there (.there (.there (.there (.there (.here) rfl) rfl) rfl) rfl) rfl) rfl | exact .there (.there (.there (.there (.there (.there (.there (.here) rfl) rfl) rfl) rfl) rfl) rfl) rfl | exact .there (.there (.there (.there (.there (.there (.there (.there (.here) rfl) rfl) rfl) rfl) rfl) rfl) rfl) rfl | exact .there (.there (.there (.there (.there (.there (.there (.there (.there (.here) rfl) rfl) rfl) rfl) rfl) rfl) rfl) rfl) rfl) rfl)) ?_
  refine WL_cons hC.fn (.plain rfl (oc_assign hC (.tmp rfl) rfl rfl)) ?_
  refine WL_nil ?_
  refine W_ret ?_
  exact fin0 (.cons (.cell rfl (.p rfl) shp_45 (unit_agg rfl)) (.cons (.tmp rfl) .nil)) rfl (by simp)
set_option maxRecDepth 20000 in
set_option maxHeartbeats 4000000 in
theorem rrb_c (b b1 : List Int) (e e1 : Int) (hb8 : B8 b) (hl : b.length ≤ 1099511627776) (most v : Int) (hN : NumS b e most e1 b1 v) (he : e1 = 0) (k : Nat) (hk : v = k) (hs : k ≤ b1.length) : FnC Try.prog 24 [] [.ag [.vs b.length (I .u8 b), .i .i64 e], .i .i64 most] [] [] (.tu [.ag [.vs (b1.length - k) (I .u8 (b1.drop k)), .i .i64 0], .vs k (I .u8 (b1.take k))]) := by
  have h18 := hN.b8 hb8
  have hln := hN.len
  refine FnC.introR (N0 := 0) (T := 19) (E := [(0, .ag [.vs b.length (I .u8 b), .i .i64 e]), (1, .i .i64 most)]) Try.func24 rfl (by decide) mix rfl rfl rfl (by simp) rfl ⟨(by first | exact inSL_I _ | trivial | simp), (by first | exact inSL_I _ | trivial | simp), trivial⟩ (by simp) (by intro S _ _ h; simp) (fun F n0 X w ρ hC hro => ?_)
  refine W_seq ?_
  refine W_region ?_
  refine WL_cons hC.fn (.plain rfl (ox_box hC (.tmp rfl) (by first | rfl | exact flat_agI) (by first | exact cells_ag | rfl) rfl rfl)) ?_
  refine WL_cons hC.fn (.plain rfl (ox_alloc hC zero_45 rfl rfl rfl)) ?_
  refine WL_cons hC.fn (.plain rfl (oc_assign hC .cnils rfl rfl)) ?_
  refine WL_nil ?_
  refine W_seq ?_
  refine W_region ?_
  refine WL_cons hC.fn (.plain rfl (oc_load hC (v := .ag [.vs b.length (I .u8 b), .i .i64 e]) (.tmp rfl) (by first | exact .p rfl | exact .rp) shp_45 (by exact (unit_agg rfl)) rfl rfl)) ?_
  refine WL_cons hC.fn (.plain rfl (oc_move hC (.tmp rfl) rfl rfl)) ?_
  refine WL_cons hC.fn (.plain rfl (oc_call hC (.cons (.tmp rfl) (.cons (.tmp rfl) .nil)) (.cons1 (.free (by first | exact inSL_I _ | simp)) (.cons1 (.free (by first | exact inSL_I _ | simp)) (.same (by first | exact inSL_I _ | simp)))) (rread_u b b1 e e1 hb8 hl b1 most v hN (.inl ⟨he, rfl⟩)) glob_nil (by first | exact inSL_I _ | simp) (by first | exact .inl rfl | exact .inr (by simp)) rfl rfl)) ?_
  refine WL_cons hC.fn (.plain rfl (oc_move hC (.tmp rfl) rfl rfl)) ?_
  refine WL_cons hC.fn (.plain rfl (oc_extract hC (.tmp rfl) rfl rfl rfl)) ?_
  refine WL_cons hC.fn (.plain rfl (oc_extract hC (.tmp rfl) rfl rfl rfl)) ?_
  refine WL_cons hC.fn (.plain rfl (ox_alloc hC zero_45 rfl rfl rfl)) ?_
  refine WL_cons hC.fn (.plain rfl (ox_store hC (.tmp rfl) (.tmp rfl) rfl shp_45 (by first | rfl | exact flat_agI) rfl (by first | exact Nat.le_refl _ | exact Nat.le_of_ble_eq_true rfl | decide | (simp <;> fail) | (simp; omega)) rfl (by first | exact .here | exact .there (.here) rfl | exact .there (.there (.here) rfl) rfl | exact .there (.there (.there (.here) rfl) rfl) rfl | exact .there (.there (.there (.there (.here) rfl) rfl) rfl) rfl | exact .there (.there (.there (.there (.there (.here) rfl) rfl) rfl) rfl) rfl | exact .there (.there (.there (.there (.there (.there (.here) rfl) rfl) rfl) rfl) rfl) rfl | exact .there (.there (.there (.there (.there (.there (.there (.here) rfl) rfl) rfl) rfl) rfl) rfl) rfl | exact .there (.there (.there (.there (.there (.there (.there (.there (.here) rfl) rfl) rfl) rfl) rfl) rfl) rfl) rfl | exact .there (.there (.there (.there (.there (.there (.there (.there (.there (.here) rfl) rfl) rfl) rfl) rfl) rfl) rfl) rfl) rfl) rfl)) ?_
  rw [hk]
  refine WL_cons hC.fn (.plain rfl (oc_assign hC (.tmp rfl) rfl rfl)) ?_
  refine WL_nil ?_
  refine W_seq ?_
  refine W_region ?_
  refine WL_cons hC.fn (.plain rfl (oc_load hC (v := .ag [.vs b1.length (I .u8 b1), .i .i64 e1]) (.tmp rfl) (by first | exact .p rfl | exact .rp) shp_45 (by exact (unit_agg rfl)) rfl rfl)) ?_
  refine WL_cons hC.fn (.plain rfl (oc_move hC (.tmp rfl) rfl rfl)) ?_
  refine WL_cons hC.fn (.plain rfl (oc_call hC (.cons (.tmp rfl) (.cons (.tmp rfl) .nil)) (.cons1 (.free (by first | exact inSL_I _ | simp)) (.cons1 (.free (by first | exact inSL_I _ | simp)) (.same (by first | exact inSL_I _ | simp)))) (rtake_c b1.length b1 e1 rfl h18 (by omega) k he hs) glob_nil (by first | exact inSL_I _ | simp) (by first | exact .inl rfl | exact .inr (by simp)) rfl rfl)) ?_
  refine WL_cons hC.fn (.plain rfl (oc_extract hC (.tmp rfl) rfl rfl rfl)) ?_
  refine WL_cons hC.fn (.plain rfl (oc_extract hC (.tmp rfl) rfl rfl rfl)) ?_
  refine WL_cons hC.fn (.plain rfl (ox_store hC (.tmp rfl) (.tmp rfl) rfl shp_45 (by first | rfl | exact flat_agI) rfl (by first | exact Nat.le_refl _ | exact Nat.le_of_ble_eq_true rfl | decide | (simp <;> fail) | (simp; omega)) rfl (by first | exact .here | exact .there (.here) rfl | exact .there (.there (.here) rfl) rfl | exact .there (.there (.there (.here) rfl) rfl) rfl | exact .there (.there (.there (.there (.here) rfl) rfl) rfl) rfl | exact .there (.there (.there (.there (.there (.here) rfl) rfl) rfl) rfl) rfl | exact .there (.there (.there (.there (.there (.there (.here) rfl) rfl) rfl) rfl) rfl) rfl | exact .there (.there (.there (.there (.there (.there (.there (.here) rfl) rfl) rfl) rfl) rfl) rfl) rfl | exact .there (.there (.there (.there (.there (.there (.there (.there (.here) rfl) rfl) rfl) rfl) rfl) rfl) rfl) rfl | exact .there (.there (.there (.there (.there (.there (.there (.there (.there (.here) rfl) rfl) rfl) rfl) rfl) rfl) rfl) rfl) rfl) rfl)) ?_
  refine WL_cons hC.fn (.plain rfl (oc_assign hC (.tmp rfl) rfl rfl)) ?_
  refine WL_nil ?_
  refine W_ret ?_
  exact fin0 (.cons (.cell rfl (.p rfl) shp_45 (unit_agg rfl)) (.cons (.tmp rfl) .nil)) rfl (by simp)
set_option maxRecDepth 20000 in
set_option maxHeartbeats 4000000 in
theorem opt_c (b b1 : List Int) (e e1 : Int) (hb8 : B8 b) (hl : b.length ≤ 1099511627776) (v : Int) (hN : NumS b e 1099511627775 e1 b1 v) : FnC Try.prog 30 [] [.p 0 0] [(0, .blk 62 [.vs b.length (I .u8 b), .i .i64 e])] [(0, .blk 62 [.vs b1.length (I .u8 b1), .i .i64 e1])] (.i .i64 v) := by
  refine FnC.introR (N0 := 1) (T := 5) (E := [(0, .p 0 0)]) Try.func30 rfl (by decide) mix rfl rfl rfl (by simp) rfl ⟨(by first | exact inSL_I _ | trivial | simp), trivial⟩ (by intro k b hm; simp only [List.mem_cons, Prod.mk.injEq, List.not_mem_nil, or_false] at hm; rcases hm with ⟨rfl, rfl⟩ <;> exact ⟨by decide, by first | exact inSL_I _ | simp⟩) (by
        intro S ha hr hw
        have s0 : S 0 := (hr 0 _ List.mem_cons_self).1
        refine ⟨by first | exact inSL_I _ | simp [s0], fun k b hm => ?_⟩
        simp only [List.mem_cons, Prod.mk.injEq, List.not_mem_nil, or_false] at hm
        rcases hm with ⟨rfl, rfl⟩
        · exact ⟨s0, by first | exact inSL_I _ | simp [s0]⟩) (fun F n0 X w ρ hC hro => ?_)
  refine W_seq ?_
  refine W_region ?_
  refine WL_cons hC.fn (.plain rfl (oc_assign hC .cint rfl rfl)) ?_
  refine WL_nil ?_
  refine W_seq ?_
  refine W_region ?_
  refine WL_cons hC.fn (.plain rfl (oc_move hC (.tmp rfl) rfl rfl)) ?_
  refine WL_cons hC.fn (.plain rfl (oc_callG (τ := fun k => bif Nat.beq k 0 then 0 else k) (N' := 1) hC .func (.cons (.tmp rfl) (.cons .cint .nil)) (.own (by first | rfl | simp) (.v1 (.free (by first | exact inSL_I _ | simp)) .end)) (num_u b b1 e e1 hb8 hl _ v hN) glob_nil (mr_cons (by first | exact ren_blkI | exact ren_rowI | exact Blk.ren_free (by simp) _ | rfl) rfl mr_nil) (mr_cons (by first | exact ren_blkI | exact ren_rowI | exact Blk.ren_free (by simp) _ | rfl) rfl mr_nil) rfl (rd_cons rfl rd_nil) rfl rfl rfl rfl (by first | exact .inl rfl | exact .inr ⟨by simp, (nv_cons (by first | exact novsL_I _ | simp) nv_nil)⟩) rfl (dst_ok rfl rfl) (fun t => setE_cons _ _ _ _))) ?_
  refine WL_cons hC.fn (.plain rfl (oc_assign hC (.tmp rfl) rfl rfl)) ?_
  refine WL_nil ?_
  refine W_ret ?_
  exact finK (fun k => k) (.cons (.tmp rfl) .nil) rfl (wr_cons rfl (Blk.ren_free (by simp) _) wr_nil) rfl rfl
set_option maxRecDepth 20000 in
set_option maxHeartbeats 4000000 in
theorem listrange_c (b b1 : List Int) (e1 : Int) (hb8 : B8 b) (hl : b.length ≤ 1099511627776) (most : Int) (f : Nat) (hN : NumS b 0 most e1 b1 0) : FnC Try.prog 29 [] [.p 0 0, .i .i64 most, .f f []] [(0, .blk 62 [.vs b.length (I .u8 b), .i .i64 0])] [(0, .blk 62 [.vs b1.length (I .u8 b1), .i .i64 e1])] (.nils) := by
  refine FnC.introR (N0 := 1) (T := 24) (E := [(0, .p 0 0), (1, .i .i64 most), (2, .f f [])]) Try.func29 rfl (by decide) mix rfl rfl rfl (by simp) rfl ⟨(by first | exact inSL_I _ | trivial | simp), (by first | exact inSL_I _ | trivial | simp), (by first | exact inSL_I _ | trivial | simp), trivial⟩ (by intro k b hm; simp only [List.mem_cons, Prod.mk.injEq, List.not_mem_nil, or_false] at hm; rcases hm with ⟨rfl, rfl⟩ <;> exact ⟨by decide, by first | exact inSL_I _ | simp⟩) (by
        intro S ha hr hw
        have s0 : S 0 := (hr 0 _ List.mem_cons_self).1
        refine ⟨by first | exact inSL_I _ | simp [s0], fun k b hm => ?_⟩
        simp only [List.mem_cons, Prod.mk.injEq, List.not_mem_nil, or_false] at hm
        rcases hm with ⟨rfl, rfl⟩
        · exact ⟨s0, by first | exact inSL_I _ | simp [s0]⟩) (fun F n0 X w ρ hC hro => ?_)
  refine W_seq ?_
  refine W_region ?_
  refine WL_cons hC.fn (.plain rfl (oc_assign hC .cnils rfl rfl)) ?_
  refine WL_nil ?_
  refine W_seq ?_
  refine W_region ?_
  refine WL_cons hC.fn (.plain rfl (oc_assign hC .cnils rfl rfl)) ?_
  refine WL_nil ?_
  refine W_seq ?_
  refine W_seq ?_
  refine W_region ?_
  refine WL_cons hC.fn (.plain rfl (oc_move hC (.tmp rfl) rfl rfl)) ?_
  refine WL_cons hC.fn (.plain rfl (oc_move hC (.tmp rfl) rfl rfl)) ?_
  refine WL_cons hC.fn (.plain rfl (oc_callG (τ := fun k => bif Nat.beq k 0 then 0 else k) (N' := 1) hC .func (.cons (.tmp rfl) (.cons (.tmp rfl) .nil)) (.own (by first | rfl | simp) (.v1 (.free (by first | exact inSL_I _ | simp)) .end)) (num_u b b1 0 e1 hb8 hl most 0 hN) glob_nil (mr_cons (by first | exact ren_blkI | exact ren_rowI | exact Blk.ren_free (by simp) _ | rfl) rfl mr_nil) (mr_cons (by first | exact ren_blkI | exact ren_rowI | exact Blk.ren_free (by simp) _ | rfl) rfl mr_nil) rfl (rd_cons rfl rd_nil) rfl rfl rfl rfl (by first | exact .inl rfl | exact .inr ⟨by simp, (nv_cons (by first | exact novsL_I _ | simp) nv_nil)⟩) rfl (dst_ok rfl rfl) (fun t => setE_cons _ _ _ _))) ?_
  refine WL_cons hC.fn (.plain rfl (oc_move hC .cint rfl rfl)) ?_
  refine WL_nil ?_
  refine W_blk ?_
  refine W_loopW (fun (ζ : Unit) => ⟨1, [(0, .p 0 0), (7, .nils), (10, .i .i64 0), (11, .i .i64 0)], [(0, .blk 62 [.vs b1.length (I .u8 b1), .i .i64 e1])]⟩) (fun ζ => True) (fun ζ => 0) () (by simp) (weak (fun k => k) (.cons rfl (by first | rfl | simp) (by show _ < _; decide) (.cons rfl (by first | rfl | simp) trivial (.cons rfl (by first | rfl | exact congrArg (AV.i _) (by omega) | exact congrArg (AV.i _) (by simp; omega)) trivial (.cons rfl (by first | rfl | exact congrArg (AV.i _) (by omega) | exact congrArg (AV.i _) (by simp; omega)) trivial .nil)))) (.cons rfl (Blk.ren_free (by simp) _) rfl (by first | exact inSL_I _ | simp) .nil) rfl rfl rfl) ?_
  rintro ⟨⟩ hR
  first | show W _ _ _ ⟨1, [(0, .p 0 0), (7, .nils), (10, .i .i64 0), (11, .i .i64 0)], [(0, .blk 62 [.vs b1.length (I .u8 b1), .i .i64 e1])]⟩ | skip
  refine W_seq ?_
  refine W_region ?_
  refine WL_cons hC.fn (.plain rfl (ox_cmp hC rfl (.tmp rfl) (.tmp rfl) rfl rfl rfl)) ?_
  refine WL_nil ?_
  refine W_seq ?_
  refine W_cond rfl (by decide) (fun hc => ?_) (fun hc => ?_)
  ·
    replace hc := lss_t hc
    exfalso
    omega
  ·
    replace hc := lss_f hc
    
    refine W_exit ?_
    refine W_seq ?_
    refine W_region ?_
    refine WL_cons hC.fn (.plain rfl (oc_move hC (.tmp rfl) rfl rfl)) ?_
    refine WL_cons hC.fn (.plain rfl (oc_assign hC (.tmp rfl) rfl rfl)) ?_
    refine WL_nil ?_
    refine W_ret ?_
    exact finK (fun k => k) (.cons (.tmp rfl) .nil) rfl (wr_cons rfl (Blk.ren_free (by simp) _) wr_nil) rfl rfl
set_option maxRecDepth 20000 in
set_option maxHeartbeats 4000000 in
theorem list_c (nl : Nat) (l : List Int) (hn : l.length = nl) (hm : nl ≤ 1099511627) (hs : Nums l) (most : Int) (hmo : nl ≤ most) : FnC Try.prog 29 [] [.p 0 0, .i .i64 most, .f 30 []] [(0, .blk 62 [.vs (putV nl ++ flatP l).length (I .u8 (putV nl ++ flatP l)), .i .i64 0])] [(0, .blk 62 [.vs 0 (I .u8 []), .i .i64 0]), (1, .row 3 1 nl (I .i64 l))] (.row 1) := by
  have hp8 := B8_putV (n := nl) (by omega)
  have hf8 := B8_flatP hs
  have hlf := length_flatP l
  have hlp := length_putV (n := nl) (by omega)
  refine FnC.introR (N0 := 1) (T := 24) (E := [(0, .p 0 0), (1, .i .i64 most), (2, .f 30 [])]) Try.func29 rfl (by decide) mix rfl rfl rfl (by simp) rfl ⟨(by first | exact inSL_I _ | trivial | simp), (by first | exact inSL_I _ | trivial | simp), (by first | exact inSL_I _ | trivial | simp), trivial⟩ (by intro k b hm; simp only [List.mem_cons, Prod.mk.injEq, List.not_mem_nil, or_false] at hm; rcases hm with ⟨rfl, rfl⟩ <;> exact ⟨by decide, by first | exact inSL_I _ | simp⟩) (by
        intro S ha hr hw
        have s0 : S 0 := (hr 0 _ List.mem_cons_self).1
        have s1 : S 1 := hw 1 (by first | (simp; done) | (show some _ ≠ none; simp)) (by first | rfl | simp)
        refine ⟨by first | exact inSL_I _ | simp [s0, s1], fun k b hm => ?_⟩
        simp only [List.mem_cons, Prod.mk.injEq, List.not_mem_nil, or_false] at hm
        rcases hm with ⟨rfl, rfl⟩ | ⟨rfl, rfl⟩
        · exact ⟨s0, by first | exact inSL_I _ | simp [s0, s1]⟩
        · exact ⟨s1, by first | exact inSL_I _ | simp [s0, s1]⟩) (fun F n0 X w ρ hC hro => ?_)
  refine W_seq ?_
  refine W_region ?_
  refine WL_cons hC.fn (.plain rfl (oc_assign hC .cnils rfl rfl)) ?_
  refine WL_nil ?_
  refine W_seq ?_
  refine W_region ?_
  refine WL_cons hC.fn (.plain rfl (oc_assign hC .cnils rfl rfl)) ?_
  refine WL_nil ?_
  refine W_seq ?_
  refine W_seq ?_
  refine W_region ?_
  refine WL_cons hC.fn (.plain rfl (oc_move hC (.tmp rfl) rfl rfl)) ?_
  refine WL_cons hC.fn (.plain rfl (oc_move hC (.tmp rfl) rfl rfl)) ?_
  refine WL_cons hC.fn (.plain rfl (oc_callG (τ := fun k => bif Nat.beq k 0 then 0 else k) (N' := 1) hC .func (.cons (.tmp rfl) (.cons (.tmp rfl) .nil)) (.own (by first | rfl | simp) (.v1 (.free (by first | exact inSL_I _ | simp)) .end)) (num_u (putV nl ++ flatP l) (flatP l) 0 0 (B8_append hp8 hf8) (by rw [List.length_append]; omega) most nl (.go rfl (numR_put _ (by omega) hmo))) glob_nil (mr_cons (by first | exact ren_blkI | exact ren_rowI | exact Blk.ren_free (by simp) _ | rfl) rfl mr_nil) (mr_cons (by first | exact ren_blkI | exact ren_rowI | exact Blk.ren_free (by simp) _ | rfl) rfl mr_nil) rfl (rd_cons rfl rd_nil) rfl rfl rfl rfl (by first | exact .inl rfl | exact .inr ⟨by simp, (nv_cons (by first | exact novsL_I _ | simp) nv_nil)⟩) rfl (dst_ok rfl rfl) (fun t => setE_cons _ _ _ _))) ?_
  refine WL_cons hC.fn (.plain rfl (oc_move hC .cint rfl rfl)) ?_
  refine WL_nil ?_
  refine W_blk ?_
  refine W_weak (weak_nil (t := 7) (e := 3) (sz := 1) rfl) ?_
  refine W_loopW (fun (ζ : Nat) => ⟨2, [(0, .p 0 0), (2, .f 30 []), (7, .row 1), (10, .i .i64 nl), (11, .i .i64 ζ)], [(0, .blk 62 [.vs (flatP (l.drop ζ)).length (I .u8 (flatP (l.drop ζ))), .i .i64 0]), (1, .row 3 1 ζ (I .i64 (l.take ζ)))]⟩) (fun ζ => ζ ≤ nl) (fun ζ => nl - ζ) (0) (Nat.zero_le _) (weak (fun k => k) (.cons rfl (by first | rfl | simp) (by show _ < _; decide) (.cons rfl rfl (by simp) (.cons rfl (by first | rfl | simp) (by show _ < _; decide) (.cons rfl (by first | rfl | exact congrArg (AV.i _) (by omega) | exact congrArg (AV.i _) (by simp; omega)) trivial (.cons rfl rfl trivial .nil))))) (.cons rfl (Blk.ren_free (by simp) _) rfl (by first | exact inSL_I _ | simp) (.cons rfl (renRow (l' := []) rfl rfl) rfl (by first | exact inSL_I _ | simp) .nil)) rfl rfl rfl) ?_
  intro i hR
  replace hR : i ≤ nl := hR
  first | show W _ _ _ ⟨2, [(0, .p 0 0), (2, .f 30 []), (7, .row 1), (10, .i .i64 nl), (11, .i .i64 i)], [(0, .blk 62 [.vs (flatP (l.drop i)).length (I .u8 (flatP (l.drop i))), .i .i64 0]), (1, .row 3 1 i (I .i64 (l.take i)))]⟩ | skip
  refine W_seq ?_
  refine W_region ?_
  refine WL_cons hC.fn (.plain rfl (ox_cmp hC rfl (.tmp rfl) (.tmp rfl) rfl rfl rfl)) ?_
  refine WL_nil ?_
  refine W_seq ?_
  refine W_cond rfl (by decide) (fun hc => ?_) (fun hc => ?_)
  ·
    replace hc := lss_t hc
    have hin : i < l.length := by omega
    have hx := hs.get hin
    obtain ⟨xn, hxn⟩ := Int.eq_ofNat_of_zero_le hx.1
    have hs2 : Nums (l.drop (i + 1)) := fun x hx => hs x (List.mem_of_mem_drop hx)
    have h82 := B8_flatP hs2
    have hl2 := length_flatP (l.drop (i + 1))
    rw [List.length_drop] at hl2
    have hpx := B8_putV (n := xn) (by omega)
    have hlx := length_putV (n := xn) (by omega)
    have hfd : flatP (l.drop i) = putV xn ++ flatP (l.drop (i + 1)) := by rw [flatP_drop hin, hxn, Int.toNat_natCast]
    rw [hfd]
    refine W_skip ?_
    refine W_seq ?_
    refine W_blk ?_
    refine W_seq ?_
    refine W_region ?_
    refine WL_cons hC.fn (.plain rfl (oc_move hC (.tmp rfl) rfl rfl)) ?_
    refine WL_cons hC.fn (.plain rfl (oc_move hC (.tmp rfl) rfl rfl)) ?_
    refine WL_cons hC.fn (.plain rfl (oc_move hC (.tmp rfl) rfl rfl)) ?_
    refine WL_cons hC.fn (.plain rfl (oc_callG (τ := fun k => bif Nat.beq k 0 then 0 else k) (N' := 2) hC (.val rfl) (.cons (.tmp rfl) .nil) (.own (by first | rfl | simp) .end) (opt_c (putV xn ++ flatP (l.drop (i + 1))) (flatP (l.drop (i + 1))) 0 0 (B8_append hpx h82) (by rw [List.length_append]; omega) xn (.go rfl (numR_put _ (by omega) (by omega)))) glob_nil (mr_cons (by first | exact ren_blkI | exact ren_rowI | exact Blk.ren_free (by simp) _ | rfl) rfl mr_nil) (mr_cons (by first | exact ren_blkI | exact ren_rowI | exact Blk.ren_free (by simp) _ | rfl) rfl mr_nil) rfl (rd_cons rfl rd_nil) rfl rfl rfl rfl (by first | exact .inl rfl | exact .inr ⟨by simp, (nv_cons (by first | exact novsL_I _ | simp) nv_nil)⟩) rfl (dst_ok rfl rfl) (fun t => setE_cons _ _ _ _))) ?_
    rw [← hxn]
    refine WL_cons hC.fn (.plain rfl (ox_lit hC (.cons (.tmp rfl) .nil) Try.underlying57 cells_3 zero_3 rfl (by decide) rfl rfl (by first | rfl | simp) rfl rfl)) ?_
    refine WL_cons hC.fn (.plain rfl (ox_append hC (.tmp rfl) (.tmp rfl) (by first | exact .row rfl rfl (by first | exact .here rfl | exact .there (.here rfl) rfl | exact .there (.there (.here rfl) rfl) rfl | exact .there (.there (.there (.here rfl) rfl) rfl) rfl | exact .there (.there (.there (.there (.here rfl) rfl) rfl) rfl) rfl | exact .there (.there (.there (.there (.there (.here rfl) rfl) rfl) rfl) rfl) rfl | exact .there (.there (.there (.there (.there (.there (.here rfl) rfl) rfl) rfl) rfl) rfl) rfl | exact .there (.there (.there (.there (.there (.there (.there (.here rfl) rfl) rfl) rfl) rfl) rfl) rfl) rfl | exact .there (.there (.there (.there (.there (.there (.there (.there (.here rfl) rfl) rfl) rfl) rfl) rfl) rfl) rfl) rfl | exact .there (.there (.there (.there (.there (.there (.there (.there (.there (.here rfl) rfl) rfl) rfl) rfl) rfl) rfl) rfl) rfl) rfl | exact .there (.there (.there (.there (.there (.there (.there (.there (.there (.there (.here rfl) rfl) rfl) rfl) rfl) rfl) rfl) rfl) rfl) rfl) rfl | exact .there (.there (.there (.there (.there (.there (.there (.there (.there (.there (.there (.here rfl) rfl) rfl) rfl) rfl) rfl) rfl) rfl) rfl) rfl) rfl) rfl | exact .there (.there (.there (.there (.there (.there (.there (.there (.there (.there (.there (.there (.here rfl) rfl) rfl) rfl) rfl) rfl) rfl) rfl) rfl) rfl) rfl) rfl) rfl | exact .there (.there (.there (.there (.there (.there (.there (.there (.there (.there (.there (.there (.there (.here rfl) rfl) rfl) rfl) rfl) rfl) rfl) rfl) rfl) rfl) rfl) rfl) rfl) rfl | exact .there (.there (.there (.there (.there (.there (.there (.there (.there (.there (.there (.there (.there (.there (.here rfl) rfl) rfl) rfl) rfl) rfl) rfl) rfl) rfl) rfl) rfl) rfl) rfl) rfl) rfl | exact .there (.there (.there (.there (.there (.there (.there (.there (.there (.there (.there (.there (.there (.there (.there (.here rfl) rfl) rfl) rfl) rfl) rfl) rfl) rfl) rfl) rfl) rfl) rfl) rfl) rfl) rfl) rfl) | exact .nils) (by first | exact .row rfl | exact .vs | exact .sl rfl | exact .nils) (by first | exact hro_nil | exact hro_one rfl) Try.underlying57 cells_3 bytes_3 zero_3 rfl (by decide) (by first | (simp <;> fail) | (simp; omega)) (by first | rfl | exact one_takeI) (by first | rfl | (simp <;> fail) | (simp; omega)) app_1 (by simp only [maxLen]; omega) (by omega) rfl rfl)) ?_
    refine WL_cons hC.fn (.plain rfl (oc_assign hC (.tmp rfl) rfl rfl)) ?_
    refine WL_nil ?_
    refine W_seq ?_
    refine W_region ?_
    refine WL_cons hC.fn (.plain rfl (oc_move hC (.tmp rfl) rfl rfl)) ?_
    refine WL_cons hC.fn (.plain rfl (oc_callG (τ := fun k => bif Nat.beq k 0 then 0 else k) (N' := 3) hC .func (.cons (.tmp rfl) .nil) (.own (by first | rfl | simp) .end) (err_c (flatP (l.drop (i + 1))).length (flatP (l.drop (i + 1))) 0 rfl h82 (by omega)) glob_nil (mr_cons (by first | exact ren_blkI | exact ren_rowI | exact Blk.ren_free (by simp) _ | rfl) rfl mr_nil) (mr_cons (by first | exact ren_blkI | exact ren_rowI | exact Blk.ren_free (by simp) _ | rfl) rfl mr_nil) rfl (rd_cons rfl rd_nil) rfl rfl rfl rfl (by first | exact .inl rfl | exact .inr ⟨by simp, (nv_cons (by first | exact novsL_I _ | simp) nv_nil)⟩) rfl (dst_ok rfl rfl) (fun t => setE_cons _ _ _ _))) ?_
    refine WL_cons hC.fn (.plain rfl (ox_cmp hC rfl (.tmp rfl) .cint (r := false) rfl rfl rfl)) ?_
    refine WL_nil ?_
    refine W_cond rfl (by decide) (fun hc => by cases hc) (fun _ => ?_)
    refine W_skip ?_
    refine W_region ?_
    refine WL_cons hC.fn (.plain rfl (oc_bin hC rfl (.tmp rfl) .cint (by first | exact i64_add (by omega) | rfl) rfl rfl)) ?_
    refine WL_cons hC.fn (.plain rfl (oc_move hC (.tmp rfl) rfl rfl)) ?_
    refine WL_nil ?_
    exact ⟨(i + 1), (by omega), (weak (fun k => bif Nat.beq k 1 then 2 else k) (.cons rfl (by first | rfl | simp) (by show _ < _; decide) (.cons rfl rfl (by simp) (.cons rfl (by first | rfl | simp) (by show _ < _; decide) (.cons rfl (by first | rfl | exact congrArg (AV.i _) (by omega) | exact congrArg (AV.i _) (by simp; omega)) trivial (.cons rfl (by first | rfl | exact congrArg (AV.i _) (by omega) | exact congrArg (AV.i _) (by simp; omega)) trivial .nil))))) (.cons rfl (Blk.ren_free (by simp) _) rfl (by first | exact inSL_I _ | simp) (.cons rfl (renRow rfl (by rw [List.take_succ_eq_append_getElem (by omega), List.getD_eq_getElem?_getD, List.getElem?_eq_getElem (by omega)]; rfl)) rfl (by first | exact inSL_I _ | simp) .nil)) rfl rfl rfl), (by omega)⟩
  ·
    replace hc := lss_f hc
    obtain rfl : i = nl := by omega
    rw [List.drop_of_length_le (show l.length ≤ i by omega), List.take_of_length_le (show l.length ≤ i by omega), flatP_nil]
    refine W_exit ?_
    refine W_seq ?_
    refine W_region ?_
    refine WL_cons hC.fn (.plain rfl (oc_move hC (.tmp rfl) rfl rfl)) ?_
    refine WL_cons hC.fn (.plain rfl (oc_assign hC (.tmp rfl) rfl rfl)) ?_
    refine WL_nil ?_
    refine W_ret ?_
    exact finK (fun k => k) (.cons (.tmp rfl) .nil) rfl (wr_cons rfl (Blk.ren_free (by simp) _) (wr_cons rfl ren_rowI wr_nil)) rfl rfl
theorem putV_128 : putV 128 = [128, 1] := by rw [putV_eq, putN_ge (by decide), putN_lt (by decide)]; rfl
theorem fixL_1 : fixL 1 4 = [1, 0, 0, 0] := by simp [fixL]
theorem vle_1 : vle [1, 0, 0, 0] = 1 := by simp [vle_cons, vle_nil]
theorem putn_c (nC : Nat) (n : Int) (hn : (n = nC ∧ nC ≤ 1099511627775) ∨ ((n < 0 ∨ 1099511627775 < n) ∧ nC = 0)) : FnC Try.prog 15 [] [.vs 0 (I .u8 []), .i .i64 n] [] [(0, .row 5 1 (putV nC).length (I .u8 (putV nC)))] (.row 0) := by
  have h := put_c 0 nC [] n rfl (by decide) hn
  rw [List.nil_append, Nat.zero_add] at h
  exact h
theorem fixn_c (n wd : Nat) (width : Int) (hw : (width = wd ∧ wd ≤ 8) ∨ (width < 0 ∧ wd = 0)) : FnC Try.prog 16 [] [.vs 0 (I .u8 []), .i .u64 n, .i .i64 width] [] [(0, .row 5 1 wd (I .u8 (fixL n wd)))] (.row 0) := by
  have h := fix_c 0 n wd [] width rfl (by decide) hw
  rw [List.nil_append, Nat.zero_add] at h
  exact h
set_option maxRecDepth 20000 in
set_option maxHeartbeats 4000000 in
theorem awake01_c  : FnC Try.prog 10 [] [] [] [] (.b true) := by
  refine FnC.introR (N0 := 0) (T := 25) (E := []) Try.func10 rfl (by decide) mix rfl rfl rfl (by simp) rfl trivial (by simp) (by intro S _ _ h; simp) (fun F n0 X w ρ hC hro => ?_)
  refine W_seq ?_
  refine W_region ?_
  refine WL_cons hC.fn (.plain rfl (oc_assign hC .cbool rfl rfl)) ?_
  refine WL_nil ?_
  refine W_seq ?_
  refine W_region ?_
  refine WL_cons hC.fn (.plain rfl (oc_callN hC (.cons .cnils (.cons .cint .nil)) (.cons1 (by first | exact .free (by first | exact inSL_I _ | simp) | exact .row rfl rfl (by first | exact inSL_I _ | simp) | exact .nils | exact .sl1 rfl (by first | exact cut_I | rfl) (by first | exact inSL_I _ | simp)) (.cons1 (.free (by first | exact inSL_I _ | simp)) (.same (by first | exact inSL_I _ | simp)))) (put_c 0 128 [] 128 rfl (by decide) (.inl ⟨rfl, by decide⟩)) glob_nil (by first | exact inSL_I _ | simp) rfl (by first | exact .inl rfl | exact .inr ⟨by simp, novsL_I _⟩ | exact .inr ⟨by simp, by simp⟩) rfl rfl)) ?_
  rw [putV_128]
  refine WL_cons hC.fn (.plain rfl (oc_callN hC (.cons (.tmp rfl) (.cons .cint (.cons .cint .nil))) (.cons1 (by first | exact .free (by first | exact inSL_I _ | simp) | exact .row rfl rfl (by first | exact inSL_I _ | simp) | exact .nils | exact .sl1 rfl (by first | exact cut_I | rfl) (by first | exact inSL_I _ | simp)) (.cons1 (.free (by first | exact inSL_I _ | simp)) (.cons1 (.free (by first | exact inSL_I _ | simp)) (.same (by first | exact inSL_I _ | simp))))) (fix_c 2 1 4 [128, 1] 4 rfl (by decide) (.inl ⟨rfl, by decide⟩)) glob_nil (by first | exact inSL_I _ | simp) rfl (by first | exact .inl rfl | exact .inr ⟨by simp, novsL_I _⟩ | exact .inr ⟨by simp, by simp⟩) rfl rfl)) ?_
  rw [fixL_1]
  refine WL_cons hC.fn (.plain rfl (oc_assign hC (.tmp rfl) rfl rfl)) ?_
  refine WL_nil ?_
  refine W_seq ?_
  refine W_region ?_
  refine WL_weak (weak_frz (t := 1) (b := [128, 1, 1, 0, 0, 0]) rfl rfl (.here rfl) rfl) ?_
  refine WL_cons hC.fn (.plain rfl (oc_move hC (.tmp rfl) rfl rfl)) ?_
  refine WL_cons hC.fn (.plain rfl (oc_callG (τ := fun k => bif Nat.beq k 0 then 2 else k) (N' := 3) hC .func (.cons (.tmp rfl) .nil) (.v1 (by first | exact .free (by first | exact inSL_I _ | simp) | exact .row rfl rfl (by first | exact inSL_I _ | simp) | exact .nils | exact .sl1 rfl (by first | exact cut_I | rfl) (by first | exact inSL_I _ | simp)) .end) (new_c 6 [128, 1, 1, 0, 0, 0] rfl (by decide)) glob_nil mr_nil (mr_cons (by first | exact ren_blkI | exact ren_rowI | exact Blk.ren_free (by simp) _ | rfl) rfl mr_nil) rfl rd_nil rfl rfl rfl rfl (by first | exact .inl rfl | exact .inr ⟨by simp, (nv_cons (by first | exact novsL_I _ | simp) nv_nil)⟩) rfl (dst_ok rfl rfl) (fun t => setE_cons _ _ _ _))) ?_
  refine WL_cons hC.fn (.plain rfl (oc_assign hC (.tmp rfl) rfl rfl)) ?_
  refine WL_nil ?_
  refine W_seq ?_
  refine W_region ?_
  refine WL_cons hC.fn (.plain rfl (oc_move hC (.tmp rfl) rfl rfl)) ?_
  refine WL_cons hC.fn (.plain rfl (ox_b2s (l := [128, 1, 1, 0, 0, 0]) hC (.tmp rfl) (by first | exact .row rfl | exact .vs | exact .sl rfl | exact .nils) rfl rfl Try.underlying22 Try.underlying5 Try.underlying9 rfl rfl)) ?_
  refine WL_cons hC.fn (.plain rfl (ox_eqs hC (.inl rfl) (.tmp rfl) .cstr (r := true) (by decide) rfl rfl)) ?_
  refine WL_cons hC.fn (.plain rfl (oc_move hC (.tmp rfl) rfl rfl)) ?_
  refine WL_cons hC.fn (.yes rfl rfl (by decide) rfl (oc_move hC (.tmp rfl) rfl rfl)) ?_
  refine WL_cons hC.fn (.yes rfl rfl (by decide) rfl (oc_callG (τ := fun k => bif Nat.beq k 0 then 2 else k) (N' := 3) hC .func (.cons (.tmp rfl) (.cons .cint .nil)) (.own (by first | rfl | simp) (.v1 (.free (by first | exact inSL_I _ | simp)) .end)) (num_u [128, 1, 1, 0, 0, 0] [1, 0, 0, 0] 0 0 (by unfold B8; decide) (by decide) 200 128 (.go rfl (by have h := numR_put (n := 128) (most := 200) [1, 0, 0, 0] (by decide) (by decide); rw [putV_128] at h; exact h))) glob_nil (mr_cons (by first | exact ren_blkI | exact ren_rowI | exact Blk.ren_free (by simp) _ | rfl) rfl mr_nil) (mr_cons (by first | exact ren_blkI | exact ren_rowI | exact Blk.ren_free (by simp) _ | rfl) rfl mr_nil) rfl (rd_cons rfl rd_nil) rfl rfl rfl rfl (by first | exact .inl rfl | exact .inr ⟨by simp, (nv_cons (by first | exact novsL_I _ | simp) nv_nil)⟩) rfl (dst_ok rfl rfl) (fun t => setE_cons _ _ _ _))) ?_
  refine WL_cons hC.fn (.yes rfl rfl (by decide) rfl (ox_cmp hC rfl (.tmp rfl) .cint (r := true) rfl rfl rfl)) ?_
  refine WL_cons hC.fn (.plain rfl (ox_pick hC (.tmp rfl) (.tmp rfl) .cbool (by first | exact pick_t | exact pick_f | rfl) rfl rfl)) ?_
  refine WL_cons hC.fn (.plain rfl (oc_move hC (.tmp rfl) rfl rfl)) ?_
  refine WL_cons hC.fn (.yes rfl rfl (by decide) rfl (oc_move hC (.tmp rfl) rfl rfl)) ?_
  refine WL_cons hC.fn (.yes rfl rfl (by decide) rfl (oc_callG (τ := fun k => bif Nat.beq k 0 then 2 else k) (N' := 3) hC .func (.cons (.tmp rfl) (.cons .cint .nil)) (.own (by first | rfl | simp) (.v1 (.free (by first | exact inSL_I _ | simp)) .end)) (fixr_u [1, 0, 0, 0] [] 0 0 (by unfold B8; decide) (by decide) [1, 0, 0, 0] 4 (.ok 4 rfl rfl (by decide) (by decide))) glob_nil (mr_cons (by first | exact ren_blkI | exact ren_rowI | exact Blk.ren_free (by simp) _ | rfl) rfl mr_nil) (mr_cons (by first | exact ren_blkI | exact ren_rowI | exact Blk.ren_free (by simp) _ | rfl) rfl mr_nil) rfl (rd_cons rfl rd_nil) rfl rfl rfl rfl (by first | exact .inl rfl | exact .inr ⟨by simp, (nv_cons (by first | exact novsL_I _ | simp) nv_nil)⟩) rfl (dst_ok rfl rfl) (fun t => setE_cons _ _ _ _))) ?_
  rw [vle_1]
  refine WL_cons hC.fn (.yes rfl rfl (by decide) rfl (ox_cmp hC rfl (.tmp rfl) .cint (r := true) rfl rfl rfl)) ?_
  refine WL_cons hC.fn (.plain rfl (ox_pick hC (.tmp rfl) (.tmp rfl) .cbool (by first | exact pick_t | exact pick_f | rfl) rfl rfl)) ?_
  refine WL_cons hC.fn (.plain rfl (oc_move hC (.tmp rfl) rfl rfl)) ?_
  refine WL_cons hC.fn (.yes rfl rfl (by decide) rfl (oc_move hC (.tmp rfl) rfl rfl)) ?_
  refine WL_cons hC.fn (.yes rfl rfl (by decide) rfl (oc_callG (τ := fun k => bif Nat.beq k 0 then 2 else k) (N' := 3) hC .func (.cons (.tmp rfl) .nil) (.own (by first | rfl | simp) .end) (end_c 0 [] 0 rfl (by intro x hx; cases hx) (by decide) 0 (.inr (.inl ⟨rfl, rfl, rfl⟩))) glob_nil (mr_cons (by first | exact ren_blkI | exact ren_rowI | exact Blk.ren_free (by simp) _ | rfl) rfl mr_nil) (mr_cons (by first | exact ren_blkI | exact ren_rowI | exact Blk.ren_free (by simp) _ | rfl) rfl mr_nil) rfl (rd_cons rfl rd_nil) rfl rfl rfl rfl (by first | exact .inl rfl | exact .inr ⟨by simp, (nv_cons (by first | exact novsL_I _ | simp) nv_nil)⟩) rfl (dst_ok rfl rfl) (fun t => setE_cons _ _ _ _))) ?_
  refine WL_cons hC.fn (.yes rfl rfl (by decide) rfl (ox_cmp hC rfl (.tmp rfl) .cint (r := true) rfl rfl rfl)) ?_
  refine WL_cons hC.fn (.plain rfl (ox_pick hC (.tmp rfl) (.tmp rfl) .cbool (by first | exact pick_t | exact pick_f | rfl) rfl rfl)) ?_
  refine WL_cons hC.fn (.plain rfl (oc_assign hC (.tmp rfl) rfl rfl)) ?_
  refine WL_nil ?_
  refine W_ret ?_
  exact fin0 (.cons (.tmp rfl) .nil) rfl trivial
end Go.Proofs.Ytakjepiamjbnbaa
