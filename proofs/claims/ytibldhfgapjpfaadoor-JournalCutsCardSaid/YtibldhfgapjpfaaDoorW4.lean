/- Own work, printed by a program of this claim: walks through functions of the program. -/
import Derived.Test.YtibldhfgapjpfaaDoorW3
import Derived.Test.YtibldhfgapjpfaaDoorProg
import Derived.KernelRfl
set_option linter.unusedSimpArgs false
set_option linter.unusedVariables false
namespace Go.Proofs.YtibldhfgapjpfaaDoor
open Go.Sk Go.RowKit
attribute [local simp] AV.inSL AV.inS inSL_I Blk.inS Blk.cs AV.novs AV.novsL novsL_I AV.ren AV.cells AV.one lk tuAV
theorem bytes_25 : (Tryd.prog.info? 25).map (·.bytes) = some 40 := by kernel_rfl
theorem cells_25 : Tryd.prog.cellsOf 25 = 19 := by kernel_rfl
theorem eg_23 : Tryd.prog.eqGuardType Tryd.prog.depth 23 = false := by kernel_rfl
theorem kt_23 : Tryd.prog.keyTypeAt 8 23 = true := by kernel_rfl
theorem sg_23 : shp Tryd.prog 23 = some (true, Tryd.prog.cellsOf 23) := by kernel_rfl
theorem sh_23 : shOf Tryd.prog 8 23 = some (.nums 16 .u8) := by kernel_rfl
theorem shp_36 : shp Tryd.prog 36 = some (false, 1) := by kernel_rfl
theorem shp_4 : shp Tryd.prog 4 = some (false, 1) := by kernel_rfl
theorem zero_36 : zeroAV Tryd.prog 36 = some [.nils] := by kernel_rfl
theorem zero_4 : zeroAV Tryd.prog 4 = some [.b false] := by kernel_rfl
set_option maxRecDepth 20000 in
set_option maxHeartbeats 4000000 in
theorem notes_c (n : Nat) (b : List Int) (hb : b.length = n) (hl : n ≤ 1099511627776) : FnC Tryd.prog 16 [] [.vs n (I .u8 b)] [] [(0, .blk 22 [.vs n (I .u8 b)])] (.f 25 [.p 0 0]) := by
  refine FnC.introR (N0 := 0) (T := 4) (E := [(0, .vs n (I .u8 b))]) Tryd.func16 rfl (by decide) mix rfl rfl rfl (by simp) rfl ⟨(by first | exact inSL_I _ | trivial | simp), trivial⟩ (by simp) (by
        intro S ha hr hw
        have s0 : S 0 := hw 0 (by first | (simp; done) | (show some _ ≠ none; simp)) (by first | rfl | simp)
        refine ⟨by first | exact inSL_I _ | simp [s0], fun k b hm => ?_⟩
        simp only [List.mem_cons, Prod.mk.injEq, List.not_mem_nil, or_false] at hm
        rcases hm with ⟨rfl, rfl⟩
        · exact ⟨s0, by first | exact inSL_I _ | simp [s0]⟩) (fun F n0 X w ρ hC hro => ?_)
  refine wsr ?_
  refine wp rfl hC (ox_box hC (.tmp rfl) (by first | rfl | exact flat_agI) (by first | exact cells_ag | rfl) rfl rfl) ?_
  refine wp rfl hC (oc_assign hC .cnilf rfl rfl) ?_
  refine WL_nil ?_
  refine wsr ?_
  refine wp rfl hC (oc_func hC (.cons (.tmp rfl) .nil) rfl rfl) ?_
  refine wp rfl hC (oc_assign hC (.tmp rfl) rfl rfl) ?_
  refine WL_nil ?_
  refine W_ret ?_
  exact fin1 (.cons (.tmp rfl) .nil) rfl rfl (by first | exact inSL_I _ | simp)
theorem one_dropA {xs : List AV} {n : Nat} (h : xs.all AV.one = true) : (xs.drop n).all AV.one = true := List.all_eq_true.2 fun x hx => List.all_eq_true.1 h x (List.mem_of_mem_drop hx)
theorem one_takeA {xs : List AV} {n : Nat} (h : xs.all AV.one = true) : (xs.take n).all AV.one = true := List.all_eq_true.2 fun x hx => List.all_eq_true.1 h x (List.mem_of_mem_take hx)
theorem cut_app {a b : List Int} : AV.vs ((a ++ b).length - a.length) (I .u8 (((a ++ b).drop a.length).take ((a ++ b).length - a.length))) = .vs b.length (I .u8 b) := by
  rw [List.drop_left, List.length_append, Nat.add_sub_cancel_left, List.take_length]
theorem app_N {D : List NoteT} {d : NoteT} {i : Nat} (h : i < D.length) (hd : d = D[i]) (h16 : d.id.length = 16) : nts (D.take i) ++ (noteX d.id d.nx d.vo d.it).take 19 = nts (D.take (i + 1)) := by
  rw [List.take_of_length_le (show (noteX d.id d.nx d.vo d.it).length ≤ 19 by rw [length_noteX h16]; decide), ← nts_take h, ← hd]; rfl
theorem put_flat {D : List NoteT} {d : NoteT} {i : Nat} (h : i < D.length) (hd : d = D[i]) : flatB (D.take i) ++ putV (nL d.id d.nx d.vo d.it).length ++ nL d.id d.nx d.vo d.it = flatB (D.take (i + 1)) := by
  rw [← flatB_take h, ← hd, List.append_assoc]; unfold nBd nB; rfl
set_option maxRecDepth 20000 in
set_option maxHeartbeats 4000000 in
theorem scan_c (D : List NoteT) (rest : List Int) (hD : ∀ d ∈ D, NOK d) (br : B8 rest) (hno : NoN rest) (hl : (flatB D ++ rest).length ≤ 1099511626) : FnC Tryd.prog 15 [(1000000, .rp (I .u32 nibT))] [.vs (flatB D ++ rest).length (I .u8 (flatB D ++ rest))] [] [(0, .row 25 19 D.length (nts D))] (.tu [.row 0, .i .i64 (flatB D).length]) := by
  refine FnC.introR (N0 := 0) (T := 21) (E := [(0, .vs (flatB D ++ rest).length (I .u8 (flatB D ++ rest))), (1000000, .rp (I .u32 nibT))]) Tryd.func15 rfl (by decide) mix rfl rfl rfl (by simp) rfl ⟨(by first | exact inSL_I _ | trivial | simp), trivial⟩ (by simp) (by
        intro S ha hr hw
        have s0 : S 0 := hw 0 (by first | (simp; done) | (show some _ ≠ none; simp)) (by first | rfl | simp)
        refine ⟨by first | exact inSL_I _ | simp [s0], fun k b hm => ?_⟩
        simp only [List.mem_cons, Prod.mk.injEq, List.not_mem_nil, or_false] at hm
        rcases hm with ⟨rfl, rfl⟩
        · exact ⟨s0, by first | exact inSL_I _ | simp [s0]⟩) (fun F n0 X w ρ hC hro => ?_)
  refine wsr ?_
  refine wp rfl hC (oc_assign hC .cnils rfl rfl) ?_
  refine wp rfl hC (oc_assign hC .cint rfl rfl) ?_
  refine WL_nil ?_
  refine wsr ?_
  refine wp rfl hC (ox_alloc hC zero_36 rfl rfl rfl) ?_
  refine WL_nil ?_
  refine wsr ?_
  refine wp rfl hC (ox_alloc hC zero_22 rfl rfl rfl) ?_
  refine WL_nil ?_
  refine W_seq ?_
  refine wsr ?_
  refine wp rfl hC (oc_move hC (.tmp rfl) rfl rfl) ?_
  refine wp rfl hC (oc_callG (v' := .f 25 [.p 2 0]) (τ := fun k => bif Nat.beq k 0 then 2 else k) (N' := 3) hC .func (.cons (.tmp rfl) .nil) (.v1 (by first | exact .free (by first | exact inSL_I _ | simp) | exact .row rfl rfl (by first | exact inSL_I _ | simp) | exact .nils | exact .sl1 rfl (by first | exact cut_I | rfl) (by first | exact inSL_I _ | simp)) .end) (notes_c _ _ rfl (by omega)) glob_nil mr_nil (mr_cons (by first | exact ren_blkI | exact ren_rowI | exact Blk.ren_free (by simp) _ | rfl) rfl mr_nil) rfl rd_nil rfl rfl rfl rfl (by first | exact .inl rfl | exact .inr ⟨by simp, (nv_cons (by first | exact novsL_I _ | simp) nv_nil)⟩) rfl (dst_ok rfl rfl) (fun t => setE_cons _ _ _ _)) ?_
  refine WL_nil ?_
  refine W_blk ?_
  refine W_weak (weak_nilB (j := 0) (i := 0) (e := 25) (sz := 19) rfl rfl (by first | exact .here | exact .s1 rfl | exact .s2 rfl rfl | exact .s3 rfl rfl rfl | exact .s4 rfl rfl rfl rfl | exact .s5 rfl rfl rfl rfl rfl | exact .s6 rfl rfl rfl rfl rfl rfl | exact .s7 rfl rfl rfl rfl rfl rfl rfl | exact .s8 rfl rfl rfl rfl rfl rfl rfl rfl)) ?_
  refine W_weak (weak_nilB (j := 1) (i := 0) (e := 5) (sz := 1) rfl rfl (by first | exact .here | exact .s1 rfl | exact .s2 rfl rfl | exact .s3 rfl rfl rfl | exact .s4 rfl rfl rfl rfl | exact .s5 rfl rfl rfl rfl rfl | exact .s6 rfl rfl rfl rfl rfl rfl | exact .s7 rfl rfl rfl rfl rfl rfl rfl | exact .s8 rfl rfl rfl rfl rfl rfl rfl rfl)) ?_
  refine W_range (T := 28) (G := [(1000000, .rp (I .u32 nibT))]) [0, 1, 2] hC hro rfl rfl rfl rfl Tryd.func25 rfl rfl (by decide) rfl rfl rfl (glob_cons rfl rfl (by first | exact inSL_I _ | simp) glob_nil) rfl (by simp) (fun k hk => by first | exact absurd hk (Nat.not_lt_zero _) | (have hk2 : k < 0 := hk; have : k = 0 ∨ k = 1 ∨ k = 2 ∨ k = 3 := (by omega); rcases this with rfl | rfl | rfl | rfl <;> first | decide | omega)) (by show ∀ k ∈ _, k < 5; decide) (fun ρ1 w1 H1 l1 r1 hI1 hR1 => ?_)
  refine wsr ?_
  refine WL_cons hI1.fn (.plain rfl (oc_load hI1 (.tmp rfl) (by first | exact .p rfl | exact .rp) shp_22 (by first | exact unit_one rfl | exact unit_I (by first | omega | (simp <;> fail) | (simp; omega)) | exact unit_c rfl (by decide) | exact unit_c rfl (by simp)) rfl rfl)) ?_
  refine WL_cons hI1.fn (.plain rfl (oc_assign hI1 (.tmp rfl) rfl rfl)) ?_
  refine WL_nil ?_
  refine W_blk ?_
  refine W_loopW (fun (ζ : Nat) => ⟨5, [(3, .vs (flatB (D.drop ζ) ++ rest).length (I .u8 (flatB (D.drop ζ) ++ rest))), (0, .f (1000000000 + l1) []), (1, .p 2 0), (1000000, .rp (I .u32 nibT)), (5000000, .rp [])], [(0, .blk 36 [.row 3]), (1, .blk 22 [.row 4]), (2, .blk 22 [.vs (flatB D ++ rest).length (I .u8 (flatB D ++ rest))]), (3, .row 25 19 ζ (nts (D.take ζ))), (4, .row 5 1 (flatB (D.take ζ)).length (I .u8 (flatB (D.take ζ))))]⟩) (fun ζ => ζ ≤ D.length) (fun ζ => D.length - ζ) (0) (Nat.zero_le _) (weakK (fun k => k) (.cons rfl (by rw [List.drop_zero]; exact ren_vsI) (by first | exact inSL_I _ | simp) (.cons rfl (by first | exact ren_agI | exact ren_vsI | exact ren_free _ _ (by first | exact inSL_I _ | simp)) (by first | exact inSL_I _ | simp) (.cons rfl (by first | rfl | simp) (by show _ < _; decide) (.cons rfl (by first | exact ren_agI | exact ren_vsI | exact ren_free _ _ (by first | exact inSL_I _ | simp)) (by first | exact inSL_I _ | simp) (.cons rfl (by first | exact ren_agI | exact ren_vsI | exact ren_free _ _ (by first | exact inSL_I _ | simp)) (by first | exact inSL_I _ | simp) .nil))))) (.cons rfl rfl rfl (by first | exact inSL_I _ | simp) (.cons rfl rfl rfl (by first | exact inSL_I _ | simp) (.cons rfl (Blk.ren_free (by simp) _) rfl (by first | exact inSL_I _ | simp) (.cons rfl rfl rfl (by first | exact inSL_I _ | simp) (.cons rfl (renRow (l' := []) (by rw [List.take_zero, flatB_nil]; rfl) (by rw [List.take_zero, flatB_nil])) rfl (by first | exact inSL_I _ | simp) .nil))))) rfl rfl rfl) ?_
  intro i hR
  replace hR : i ≤ D.length := hR
  first | show W _ _ _ ⟨5, [(3, .vs (flatB (D.drop i) ++ rest).length (I .u8 (flatB (D.drop i) ++ rest))), (0, .f (1000000000 + l1) []), (1, .p 2 0), (1000000, .rp (I .u32 nibT)), (5000000, .rp [])], [(0, .blk 36 [.row 3]), (1, .blk 22 [.row 4]), (2, .blk 22 [.vs (flatB D ++ rest).length (I .u8 (flatB D ++ rest))]), (3, .row 25 19 i (nts (D.take i))), (4, .row 5 1 (flatB (D.take i)).length (I .u8 (flatB (D.take i))))]⟩ | skip
  refine W_blk ?_
  refine W_seq ?_
  rcases (show i < D.length ∨ i = D.length by omega) with hiD | hiD
  ·
    obtain ⟨d, hd⟩ : ∃ d, d = D[i]'hiD := ⟨_, rfl⟩
    have hdk : NOK d := by rw [hd]; exact hD _ (List.getElem_mem _)
    obtain ⟨hdi, hd8, hdr⟩ := hdk
    have hdk : NOK d := ⟨hdi, hd8, hdr⟩
    have hS : flatB (D.drop i) ++ rest = nBd d ++ (flatB (D.drop (i + 1)) ++ rest) := by rw [flatB_drop hiD, ← hd, List.append_assoc]
    have hlS : (flatB (D.drop i)).length ≤ (flatB D).length := by
      conv => rhs; rw [← List.take_append_drop i D, flatB_append, List.length_append]
      omega
    have hlS1 : (flatB (D.drop (i + 1))).length ≤ (flatB D).length := by
      conv => rhs; rw [← List.take_append_drop (i + 1) D, flatB_append, List.length_append]
      omega
    have hb1 : B8 (flatB (D.drop (i + 1)) ++ rest) := B8_append (B8_flatB fun e he => hD e (List.mem_of_mem_drop he)) br
    have hl1 : (flatB (D.drop (i + 1)) ++ rest).length ≤ 1099511626 := by
      rw [List.length_append] at hl ⊢
      omega
    have hl0 : (nBd d ++ (flatB (D.drop (i + 1)) ++ rest)).length ≤ 1099511626 := by
      rw [← hS]
      rw [List.length_append] at hl ⊢
      omega
    rw [hS]
    have hpf := put_flat hiD hd
    have hpn : (flatB (D.take i)).length + (putV (nL d.id d.nx d.vo d.it).length).length + (nL d.id d.nx d.vo d.it).length = (flatB (D.take (i + 1))).length := by rw [← hpf, List.length_append, List.length_append]
    have hltk : (flatB (D.take i)).length ≤ (flatB D).length := by
      conv => rhs; rw [← List.take_append_drop i D, flatB_append, List.length_append]
      omega
    have hl41 := nL_le (x := d.nx) (v := d.vo) (i := d.it) hdi
    have hDl : i ≤ 1099511626 := by
      have : D.length ≤ (flatB D).length := flat_ge hD
      rw [List.length_append] at hl; omega
    have hnl : (nts (D.take i)).length = i * 19 := by rw [length_nts (fun e he => Ids.of hD e (List.mem_of_mem_take he)), List.length_take]; congr 1; omega
    refine W_region ?_
    refine WL_cons hI1.fn (.plain rfl (oc_move hI1 (.tmp rfl) rfl rfl)) ?_
    refine WL_cons hI1.fn (.plain rfl (oc_call hI1 (.cons (.tmp rfl) .nil) (.cons1 (by first | exact .free (by first | exact inSL_I _ | simp) | exact .row rfl rfl (by first | exact inSL_I _ | simp) | exact .nils | exact .sl1 rfl (by first | exact cut_I | rfl) (by first | exact inSL_I _ | simp)) (.same (by first | exact inSL_I _ | simp))) (nread_ok d (flatB (D.drop (i + 1)) ++ rest) hdk hb1 (by omega)) (glob_cons rfl rfl (by first | exact inSL_I _ | simp) glob_nil) (by first | exact inSL_I _ | simp) (by first | exact .inl rfl | exact .inr (by simp)) rfl rfl)) ?_
    refine WL_cons hI1.fn (.plain rfl (oc_move hI1 (.tmp rfl) rfl rfl)) ?_
    refine WL_cons hI1.fn (.plain rfl (oc_extract hI1 (.tmp rfl) rfl rfl rfl)) ?_
    refine WL_cons hI1.fn (.plain rfl (oc_extract hI1 (.tmp rfl) rfl rfl rfl)) ?_
    refine WL_cons hI1.fn (.plain rfl (oc_extract hI1 (.tmp rfl) rfl rfl rfl)) ?_
    refine WL_cons hI1.fn (.plain rfl (ox_alloc (cs' := noteX (List.replicate 16 0) 0 0 0) hI1 zero_25 (by unfold noteX; rfl) rfl rfl)) ?_
    refine WL_cons hI1.fn (.plain rfl (ox_store (bk' := .blk 25 (noteX d.id d.nx d.vo d.it)) hI1 (.tmp rfl) (.tmp rfl) rfl shp_25 flat_noteX (by rw [cells_ag, length_noteX hdi]) (by show _ ≤ (noteX _ _ _ _).length; rw [length_noteX rfl]; decide) (put_nall rfl hdi) (by first | exact .here | exact .s1 rfl | exact .s2 rfl rfl | exact .s3 rfl rfl rfl | exact .s4 rfl rfl rfl rfl | exact .s5 rfl rfl rfl rfl rfl | exact .s6 rfl rfl rfl rfl rfl rfl | exact .s7 rfl rfl rfl rfl rfl rfl rfl | exact .s8 rfl rfl rfl rfl rfl rfl rfl rfl) rfl)) ?_
    refine WL_cons hI1.fn (.plain rfl (oc_assign hI1 (.tmp rfl) rfl rfl)) ?_
    refine WL_cons hI1.fn (.plain rfl (oc_assign hI1 (.tmp rfl) rfl rfl)) ?_
    refine WL_nil ?_
    refine W_seq ?_
    refine wsr ?_
    refine WL_cons hI1.fn (.plain rfl (oc_move hI1 (.tmp rfl) rfl rfl)) ?_
    refine WL_cons hI1.fn (.plain rfl (oc_not hI1 (.tmp rfl) rfl rfl)) ?_
    refine WL_cons hI1.fn (.plain rfl (oc_move hI1 (.tmp rfl) rfl rfl)) ?_
    refine WL_cons hI1.fn (.yes rfl rfl (by decide) rfl (oc_move hI1 (.tmp rfl) rfl rfl)) ?_
    refine WL_cons hI1.fn (.yes rfl rfl (by decide) rfl (oc_load hI1 (.tmp rfl) (by first | exact .p rfl | exact .rp) shp_25 (by exact (unit_nall hdi)) rfl rfl)) ?_
    refine WL_yieldG [0, 1, 2, 3, 4, 5] rfl rfl (by decide) rfl hR1 hI1 rfl rfl (.cons (.tmp rfl) .nil) rfl rfl rfl rfl rfl rfl (by decide) (by simp) (by show ∀ k ∈ _, k < 6; decide) (fun ρb wb Hb hB => ?_)
    refine W_region ?_
    refine WL_cons hB.fn (.plain rfl (ox_alloc (cs' := noteX (List.replicate 16 0) 0 0 0) hB zero_25 (by unfold noteX; rfl) rfl rfl)) ?_
    refine WL_cons hB.fn (.plain rfl (ox_store (bk' := .blk 25 (noteX d.id d.nx d.vo d.it)) hB (.tmp rfl) (.tmp rfl) rfl shp_25 flat_noteX (by rw [cells_ag, length_noteX hdi]) (by show _ ≤ (noteX _ _ _ _).length; rw [length_noteX rfl]; decide) (put_nall rfl hdi) (by first | exact .here | exact .s1 rfl | exact .s2 rfl rfl | exact .s3 rfl rfl rfl | exact .s4 rfl rfl rfl rfl | exact .s5 rfl rfl rfl rfl rfl | exact .s6 rfl rfl rfl rfl rfl rfl | exact .s7 rfl rfl rfl rfl rfl rfl rfl | exact .s8 rfl rfl rfl rfl rfl rfl rfl rfl) rfl)) ?_
    refine WL_nil ?_
    refine ⟨rfl, ?_⟩
    refine W_blk ?_
    refine wsr ?_
    refine WL_cons hB.fn (.plain rfl (oc_load hB (.tmp rfl) (by first | exact .p rfl | exact .rp) shp_36 (by first | exact unit_one rfl | exact unit_I (by first | omega | (simp <;> fail) | (simp; omega)) | exact unit_c rfl (by decide) | exact unit_c rfl (by simp)) rfl rfl)) ?_
    refine WL_cons hB.fn (.plain rfl (oc_load hB (.tmp rfl) (by first | exact .p rfl | exact .rp) shp_25 (by exact (unit_nall hdi)) rfl rfl)) ?_
    refine WL_cons hB.fn (.plain rfl (ox_lit1 hB (.tmp rfl) Tryd.underlying36 cells_25 zero_25 (by simp) (by decide) (length_noteX hdi) one_noteX rfl rfl)) ?_
    refine WL_cons hB.fn (.plain rfl (ox_append (n' := i + 1) (cs' := nts (D.take (i + 1))) hB (.tmp rfl) (.tmp rfl) (by first | exact .row rfl rfl (by first | exact .here rfl | exact .s1 rfl rfl | exact .s2 rfl rfl rfl | exact .s3 rfl rfl rfl rfl | exact .s4 rfl rfl rfl rfl rfl | exact .s5 rfl rfl rfl rfl rfl rfl | exact .s6 rfl rfl rfl rfl rfl rfl rfl | exact .s7 rfl rfl rfl rfl rfl rfl rfl rfl | exact .s8 rfl rfl rfl rfl rfl rfl rfl rfl rfl) | exact .nils) (by first | exact .row rfl | exact .vs | exact .sl rfl | exact .nils) (by first | exact hro_nil | exact hro_one rfl) Tryd.underlying36 cells_25 bytes_25 zero_25 rfl (by decide) (by rw [length_noteX hdi]; decide) (one_takeA one_noteX) rfl (app_N hiD hd hdi) (by simp only [maxLen]; omega) (by omega) rfl rfl)) ?_
    refine WL_cons hB.fn (.plain rfl (ox_store hB (.tmp rfl) (.tmp rfl) rfl shp_36 (by first | rfl | exact flat_agI) (by first | exact cells1 rfl | (rw [cells_ag, length_I]; omega) | rfl | (simp <;> fail) | (simp; omega)) (by first | exact Nat.le_refl _ | exact Nat.le_of_ble_eq_true rfl | decide | (simp <;> fail) | (simp; omega)) (by first | exact put_one rfl | exact put_blkI (by first | omega | (simp <;> fail) | (simp; omega)) | exact put_rowI (by first | omega | (simp <;> fail) | (simp; omega)) | rfl) (by first | exact .here | exact .s1 rfl | exact .s2 rfl rfl | exact .s3 rfl rfl rfl | exact .s4 rfl rfl rfl rfl | exact .s5 rfl rfl rfl rfl rfl | exact .s6 rfl rfl rfl rfl rfl rfl | exact .s7 rfl rfl rfl rfl rfl rfl rfl | exact .s8 rfl rfl rfl rfl rfl rfl rfl rfl) rfl)) ?_
    refine WL_nil ?_
    refine W_drawD hB ?_
    refine WD_cons (.plain rfl (oc_load hB (.tmp rfl) (by first | exact .p rfl | exact .rp) shp_22 (by first | exact unit_one rfl | exact unit_I (by first | omega | (simp <;> fail) | (simp; omega)) | exact unit_c rfl (by decide) | exact unit_c rfl (by simp)) rfl rfl)) ?_
    refine WD_cons (.plain rfl (oc_load hB (.tmp rfl) (by first | exact .p rfl | exact .rp) shp_25 (by exact (unit_nall hdi)) rfl rfl)) ?_
    refine WD_cons (.plain rfl (oc_callN hB (.cons (.tmp rfl) .nil) (.cons1 (.free (by first | exact inSL_I _ | simp)) (.same (by first | exact inSL_I _ | simp))) (nenc_c d.id d.nx d.vo d.it hdi hd8 hdr) (glob_cons rfl rfl (by first | exact inSL_I _ | simp) glob_nil) (by first | exact inSL_I _ | simp) rfl (by first | exact .inl rfl | exact .inr ⟨by simp, novsL_I _⟩ | exact .inr ⟨by simp, by simp⟩) rfl rfl)) ?_
    refine WD_cons (.plain rfl (oc_callN hB (.cons (.tmp rfl) (.cons (.tmp rfl) .nil)) (.cons1 (by first | exact .free (by first | exact inSL_I _ | simp) | exact .row rfl rfl (by first | exact inSL_I _ | simp) | exact .nils | exact .sl1 rfl (by first | exact cut_I | rfl) (by first | exact inSL_I _ | simp)) (.cons1 (by first | exact .free (by first | exact inSL_I _ | simp) | exact .row rfl rfl (by first | exact inSL_I _ | simp) | exact .nils | exact .sl1 rfl (by first | exact cut_I | rfl) (by first | exact inSL_I _ | simp)) (.same (by first | exact inSL_I _ | simp)))) (putb_c (flatB (D.take i)).length (nL d.id d.nx d.vo d.it).length (flatB (D.take i)) (nL d.id d.nx d.vo d.it) rfl rfl (by rw [List.length_append] at hl; omega) (by omega)) glob_nil (by first | exact inSL_I _ | simp) rfl (by first | exact .inl rfl | exact .inr ⟨by simp, novsL_I _⟩ | exact .inr ⟨by simp, by simp⟩) rfl rfl)) ?_
    rw [hpf, hpn]
    refine WD_cons (.plain rfl (ox_store hB (.tmp rfl) (.tmp rfl) rfl shp_22 (by first | rfl | exact flat_agI) (by first | exact cells1 rfl | (rw [cells_ag, length_I]; omega) | rfl | (simp <;> fail) | (simp; omega)) (by first | exact Nat.le_refl _ | exact Nat.le_of_ble_eq_true rfl | decide | (simp <;> fail) | (simp; omega)) (by first | exact put_one rfl | exact put_blkI (by first | omega | (simp <;> fail) | (simp; omega)) | exact put_rowI (by first | omega | (simp <;> fail) | (simp; omega)) | rfl) (by first | exact .here | exact .s1 rfl | exact .s2 rfl rfl | exact .s3 rfl rfl rfl | exact .s4 rfl rfl rfl rfl | exact .s5 rfl rfl rfl rfl rfl | exact .s6 rfl rfl rfl rfl rfl rfl | exact .s7 rfl rfl rfl rfl rfl rfl rfl | exact .s8 rfl rfl rfl rfl rfl rfl rfl rfl) rfl)) ?_
    refine WD_nil (by kernel_rfl) ?_
    refine rd_n (by rfl) ?_
    refine WL_cons hI1.fn (.yes rfl rfl (by decide) rfl (oc_not hI1 (.tmp rfl) rfl rfl)) ?_
    refine WL_cons hI1.fn (.plain rfl (ox_pick hI1 (.tmp rfl) .cbool (.tmp rfl) (by first | exact pick_t | exact pick_f | rfl) rfl rfl)) ?_
    refine WL_nil ?_
    refine W_cond rfl (by decide) (fun hc => by cases hc) (fun _ => ?_)
    refine W_skip ?_
    refine W_region ?_
    refine WL_cons hI1.fn (.plain rfl (oc_move hI1 (.tmp rfl) rfl rfl)) ?_
    refine WL_cons hI1.fn (.plain rfl (oc_move hI1 (.tmp rfl) rfl rfl)) ?_
    refine WL_cons hI1.fn (.plain rfl (ox_len hI1 (.tmp rfl) (by first | exact .row rfl | exact .vs | exact .sl rfl | exact .nils) Tryd.underlying22 rfl rfl rfl)) ?_
    refine WL_cons hI1.fn (.plain rfl (oc_move hI1 (.tmp rfl) rfl rfl)) ?_
    refine WL_cons hI1.fn (.plain rfl (oc_bin hI1 rfl (.tmp rfl) (.tmp rfl) (r := (((nBd d).length : Nat) : Int)) ((i64_sub (by rw [List.length_append] at *; omega)).trans (by rw [List.length_append]; omega)) rfl rfl)) ?_
    refine WL_cons hI1.fn (.plain rfl (ox_cutS (u' := .vs (flatB (D.drop (i + 1)) ++ rest).length (I .u8 (flatB (D.drop (i + 1)) ++ rest))) hI1 (.tmp rfl) (.yes (n := (nBd d).length) (.tmp rfl) (by first | rfl | omega)) .no idx_22 (by first | exact .row rfl (Nat.mul_one _) | exact .sl rfl | exact .vs (by first | omega | (simp <;> fail) | (simp; omega)) | exact .nils) (by rw [List.length_append]; omega) (by first | omega | (simp <;> fail) | (simp; omega)) (by rw [cut_vsI]; exact cut_app) rfl rfl)) ?_
    refine WL_cons hI1.fn (.plain rfl (oc_assign hI1 (.tmp rfl) rfl rfl)) ?_
    refine WL_nil ?_
    exact ⟨(i + 1), (by omega), (weakK (fun k => bif Nat.beq k 4 then 9 else bif Nat.beq k 3 then 7 else k) (.cons rfl ren_vsI (by first | exact inSL_I _ | simp) (.cons rfl (by first | exact ren_agI | exact ren_vsI | exact ren_free _ _ (by first | exact inSL_I _ | simp)) (by first | exact inSL_I _ | simp) (.cons rfl (by first | rfl | simp) (by show _ < _; decide) (.cons rfl (by first | exact ren_agI | exact ren_vsI | exact ren_free _ _ (by first | exact inSL_I _ | simp)) (by first | exact inSL_I _ | simp) (.cons rfl (by first | exact ren_agI | exact ren_vsI | exact ren_free _ _ (by first | exact inSL_I _ | simp)) (by first | exact inSL_I _ | simp) .nil))))) (.cons rfl rfl rfl (by first | exact inSL_I _ | simp) (.cons rfl rfl rfl (by first | exact inSL_I _ | simp) (.cons rfl (Blk.ren_free (by simp) _) rfl (by first | exact inSL_I _ | simp) (.cons rfl (Blk.ren_free (by simp) _) rfl (by first | exact inSL_I _ | simp) (.cons rfl (renRow rfl rfl) rfl (by first | exact inSL_I _ | simp) .nil))))) rfl rfl rfl), (by omega)⟩
  ·
    obtain rfl : i = D.length := by omega
    have hS : flatB (D.drop D.length) ++ rest = rest := by rw [List.drop_of_length_le (Nat.le_refl _), flatB_nil, List.nil_append]
    have hT : D.take D.length = D := List.take_length
    have hlr : rest.length ≤ 1099511626 := by rw [List.length_append] at hl; omega
    rw [hS, hT]
    refine W_region ?_
    refine WL_cons hI1.fn (.plain rfl (oc_move hI1 (.tmp rfl) rfl rfl)) ?_
    refine WL_cons hI1.fn (.plain rfl (oc_call hI1 (.cons (.tmp rfl) .nil) (.cons1 (by first | exact .free (by first | exact inSL_I _ | simp) | exact .row rfl rfl (by first | exact inSL_I _ | simp) | exact .nils | exact .sl1 rfl (by first | exact cut_I | rfl) (by first | exact inSL_I _ | simp)) (.same (by first | exact inSL_I _ | simp))) (nread_no rest br (by omega) hno) (glob_cons rfl rfl (by first | exact inSL_I _ | simp) glob_nil) (by first | exact inSL_I _ | simp) (by first | exact .inl rfl | exact .inr (by simp)) rfl rfl)) ?_
    refine WL_cons hI1.fn (.plain rfl (oc_move hI1 (.tmp rfl) rfl rfl)) ?_
    refine WL_cons hI1.fn (.plain rfl (oc_extract hI1 (.tmp rfl) rfl rfl rfl)) ?_
    refine WL_cons hI1.fn (.plain rfl (oc_extract hI1 (.tmp rfl) rfl rfl rfl)) ?_
    refine WL_cons hI1.fn (.plain rfl (oc_extract hI1 (.tmp rfl) rfl rfl rfl)) ?_
    refine WL_cons hI1.fn (.plain rfl (ox_alloc (cs' := noteX (List.replicate 16 0) 0 0 0) hI1 zero_25 (by unfold noteX; rfl) rfl rfl)) ?_
    refine WL_cons hI1.fn (.plain rfl (ox_store (bk' := .blk 25 (noteX (List.replicate 16 0) 0 0 0)) hI1 (.tmp rfl) (.tmp rfl) rfl shp_25 flat_noteX (by rw [cells_ag, length_noteX rfl]) (by show _ ≤ (noteX _ _ _ _).length; rw [length_noteX rfl]; decide) (put_nall rfl rfl) (by first | exact .here | exact .s1 rfl | exact .s2 rfl rfl | exact .s3 rfl rfl rfl | exact .s4 rfl rfl rfl rfl | exact .s5 rfl rfl rfl rfl rfl | exact .s6 rfl rfl rfl rfl rfl rfl | exact .s7 rfl rfl rfl rfl rfl rfl rfl | exact .s8 rfl rfl rfl rfl rfl rfl rfl rfl) rfl)) ?_
    refine WL_cons hI1.fn (.plain rfl (oc_assign hI1 (.tmp rfl) rfl rfl)) ?_
    refine WL_cons hI1.fn (.plain rfl (oc_assign hI1 (.tmp rfl) rfl rfl)) ?_
    refine WL_nil ?_
    refine W_seq ?_
    refine wsr ?_
    refine WL_cons hI1.fn (.plain rfl (oc_move hI1 (.tmp rfl) rfl rfl)) ?_
    refine WL_cons hI1.fn (.plain rfl (oc_not hI1 (.tmp rfl) rfl rfl)) ?_
    refine WL_cons hI1.fn (.plain rfl (oc_move hI1 (.tmp rfl) rfl rfl)) ?_
    refine WL_cons hI1.fn (.no (s1 := ⟨_, (17, .tu []) :: _, _⟩) rfl rfl (by decide) rfl (by decide) (fun t ht => by cases ht; exact ⟨blt_lt rfl, blt_lt rfl⟩) (fun t => setE_cons _ _ _ _) rfl rfl) ?_
    refine WL_cons hI1.fn (.no (s1 := ⟨_, (18, .tu []) :: _, _⟩) rfl rfl (by decide) rfl (by decide) (fun t ht => by cases ht; exact ⟨blt_lt rfl, blt_lt rfl⟩) (fun t => setE_cons _ _ _ _) rfl rfl) ?_
    refine WL_cons hI1.fn (.no (s1 := ⟨_, (19, .tu []) :: _, _⟩) rfl rfl (by decide) rfl (by decide) (fun t ht => by cases ht; exact ⟨blt_lt rfl, blt_lt rfl⟩) (fun t => setE_cons _ _ _ _) rfl rfl) ?_
    refine WL_cons hI1.fn (.no (s1 := ⟨_, (20, .tu []) :: _, _⟩) rfl rfl (by decide) rfl (by decide) (fun t ht => by cases ht; exact ⟨blt_lt rfl, blt_lt rfl⟩) (fun t => setE_cons _ _ _ _) rfl rfl) ?_
    refine WL_cons hI1.fn (.plain rfl (ox_pick hI1 (.tmp rfl) .cbool (.tmp rfl) (by first | exact pick_t | exact pick_f | rfl) rfl rfl)) ?_
    refine WL_nil ?_
    refine W_cond rfl (by decide) (fun _ => ?_) (fun hc => by cases hc)
    refine W_ret ?_
    refine rq_n (.inr rfl) (by rfl) ?_
    refine W_seq ?_
    refine W_drawD hC ?_
    refine WD_cons (.plain rfl (oc_load hC (.tmp rfl) (by first | exact .p rfl | exact .rp) shp_36 (by first | exact unit_one rfl | exact unit_I (by first | omega | (simp <;> fail) | (simp; omega)) | exact unit_c rfl (by decide) | exact unit_c rfl (by simp)) rfl rfl)) ?_
    refine WD_cons (.plain rfl (oc_load hC (.tmp rfl) (by first | exact .p rfl | exact .rp) shp_22 (by first | exact unit_one rfl | exact unit_I (by first | omega | (simp <;> fail) | (simp; omega)) | exact unit_c rfl (by decide) | exact unit_c rfl (by simp)) rfl rfl)) ?_
    refine WD_cons (.plain rfl (ox_len hC (.tmp rfl) (by first | exact .row rfl | exact .vs | exact .sl rfl | exact .nils) Tryd.underlying22 rfl rfl rfl)) ?_
    refine WD_cons (.plain rfl (oc_assign hC (.tmp rfl) rfl rfl)) ?_
    refine WD_cons (.plain rfl (oc_assign hC (.tmp rfl) rfl rfl)) ?_
    refine WD_nil (by kernel_rfl) ?_
    refine W_ret ?_
    exact fin1 (.cons (.tmp rfl) (.cons (.tmp rfl) .nil)) rfl rfl (inSL_nts _)
set_option maxRecDepth 20000 in
set_option maxHeartbeats 4000000 in
theorem last_c (D : List NoteT) (rest : List Int) (hD : ∀ d ∈ D, NOK d) (br : B8 rest) (hno : NoN rest) (hl : (flatB D ++ rest).length ≤ 1099511626) (id : List Int) (hid : id.length = 16) (bid : B8 id) : FnC Tryd.prog 17 [(1000000, .rp (I .u32 nibT))] [.vs (flatB D ++ rest).length (I .u8 (flatB D ++ rest)), .ag (I .u8 id)] [] [] (.tu [.ag (noteX (lastN id D).id (lastN id D).nx (lastN id D).vo (lastN id D).it), .b (lastB id D)]) := by
  have hLD := lastN_prop (id := id) (D := D) (P := fun d => d.id.length = 16) (fun e he => (hD e he).1) rfl
  refine FnC.introR (N0 := 0) (T := 19) (E := [(0, .vs (flatB D ++ rest).length (I .u8 (flatB D ++ rest))), (1, .ag (I .u8 id)), (1000000, .rp (I .u32 nibT))]) Tryd.func17 rfl (by decide) mix rfl rfl rfl (by simp) rfl ⟨(by first | exact inSL_I _ | trivial | simp), (by first | exact inSL_I _ | trivial | simp), trivial⟩ (by simp) (by intro S _ _ h; simp) (fun F n0 X w ρ hC hro => ?_)
  refine wsr ?_
  refine wp rfl hC (ox_box hC (.tmp rfl) (by first | rfl | exact flat_agI) (by first | exact cells_ag | rfl) rfl rfl) ?_
  refine wp rfl hC (ox_alloc (cs' := noteX (List.replicate 16 0) 0 0 0) hC zero_25 (by unfold noteX; rfl) rfl rfl) ?_
  refine wp rfl hC (oc_assign hC .cbool rfl rfl) ?_
  refine WL_nil ?_
  refine wsr ?_
  refine wp rfl hC (ox_alloc (cs' := noteX (List.replicate 16 0) 0 0 0) hC zero_25 (by unfold noteX; rfl) rfl rfl) ?_
  refine WL_nil ?_
  refine wsr ?_
  refine wp rfl hC (ox_alloc hC zero_4 rfl rfl rfl) ?_
  refine wp rfl hC (ox_store hC (.tmp rfl) .cbool rfl shp_4 (by first | rfl | exact flat_agI) (by first | exact cells1 rfl | (rw [cells_ag, length_I]; omega) | rfl | (simp <;> fail) | (simp; omega)) (by first | exact Nat.le_refl _ | exact Nat.le_of_ble_eq_true rfl | decide | (simp <;> fail) | (simp; omega)) (by first | exact put_one rfl | exact put_blkI (by first | omega | (simp <;> fail) | (simp; omega)) | exact put_rowI (by first | omega | (simp <;> fail) | (simp; omega)) | rfl) (by first | exact .here | exact .s1 rfl | exact .s2 rfl rfl | exact .s3 rfl rfl rfl | exact .s4 rfl rfl rfl rfl | exact .s5 rfl rfl rfl rfl rfl | exact .s6 rfl rfl rfl rfl rfl rfl | exact .s7 rfl rfl rfl rfl rfl rfl rfl | exact .s8 rfl rfl rfl rfl rfl rfl rfl rfl) rfl) ?_
  refine WL_nil ?_
  refine W_seq ?_
  refine wsr ?_
  refine wp rfl hC (oc_move hC (.tmp rfl) rfl rfl) ?_
  refine wp rfl hC (oc_callG (v' := .f 25 [.p 4 0]) (τ := fun k => bif Nat.beq k 0 then 4 else k) (N' := 5) hC .func (.cons (.tmp rfl) .nil) (.v1 (by first | exact .free (by first | exact inSL_I _ | simp) | exact .row rfl rfl (by first | exact inSL_I _ | simp) | exact .nils | exact .sl1 rfl (by first | exact cut_I | rfl) (by first | exact inSL_I _ | simp)) .end) (notes_c _ _ rfl (by omega)) glob_nil mr_nil (mr_cons (by first | exact ren_blkI | exact ren_rowI | exact Blk.ren_free (by simp) _ | rfl) rfl mr_nil) rfl rd_nil rfl rfl rfl rfl (by first | exact .inl rfl | exact .inr ⟨by simp, (nv_cons (by first | exact novsL_I _ | simp) nv_nil)⟩) rfl (dst_ok rfl rfl) (fun t => setE_cons _ _ _ _)) ?_
  refine WL_nil ?_
  refine W_blk ?_
  refine W_range (T := 28) (G := [(1000000, .rp (I .u32 nibT))]) [0, 1, 2, 3, 4] hC hro rfl rfl rfl rfl Tryd.func25 rfl rfl (by decide) rfl rfl rfl (glob_cons rfl rfl (by first | exact inSL_I _ | simp) glob_nil) rfl (by simp) (fun k hk => by first | exact absurd hk (Nat.not_lt_zero _) | (have hk2 : k < 0 := hk; have : k = 0 ∨ k = 1 ∨ k = 2 ∨ k = 3 := (by omega); rcases this with rfl | rfl | rfl | rfl <;> first | decide | omega)) (by show ∀ k ∈ _, k < 5; decide) (fun ρ1 w1 H1 l1 r1 hI1 hR1 => ?_)
  refine wsr ?_
  refine WL_cons hI1.fn (.plain rfl (oc_load hI1 (.tmp rfl) (by first | exact .p rfl | exact .rp) shp_22 (by first | exact unit_one rfl | exact unit_I (by first | omega | (simp <;> fail) | (simp; omega)) | exact unit_c rfl (by decide) | exact unit_c rfl (by simp)) rfl rfl)) ?_
  refine WL_cons hI1.fn (.plain rfl (oc_assign hI1 (.tmp rfl) rfl rfl)) ?_
  refine WL_nil ?_
  refine W_blk ?_
  refine W_loopW (fun (ζ : Nat) => ⟨5, [(3, .vs (flatB (D.drop ζ) ++ rest).length (I .u8 (flatB (D.drop ζ) ++ rest))), (0, .f (1000000000 + l1) []), (1, .p 4 0), (1000000, .rp (I .u32 nibT)), (5000000, .rp [])], [(0, .blk 23 (I .u8 id)), (1, .blk 25 (noteX (List.replicate 16 0) 0 0 0)), (2, .blk 25 (noteX (lastN id (D.take ζ)).id (lastN id (D.take ζ)).nx (lastN id (D.take ζ)).vo (lastN id (D.take ζ)).it)), (3, .blk 4 [.b (lastB id (D.take ζ))]), (4, .blk 22 [.vs (flatB D ++ rest).length (I .u8 (flatB D ++ rest))])]⟩) (fun ζ => ζ ≤ D.length) (fun ζ => D.length - ζ) (0) (Nat.zero_le _) (weakK (fun k => k) (.cons rfl (by rw [List.drop_zero]; exact ren_vsI) (by first | exact inSL_I _ | simp) (.cons rfl (by first | exact ren_agI | exact ren_vsI | exact ren_free _ _ (by first | exact inSL_I _ | simp)) (by first | exact inSL_I _ | simp) (.cons rfl (by first | rfl | simp) (by show _ < _; decide) (.cons rfl (by first | exact ren_agI | exact ren_vsI | exact ren_free _ _ (by first | exact inSL_I _ | simp)) (by first | exact inSL_I _ | simp) (.cons rfl (by first | exact ren_agI | exact ren_vsI | exact ren_free _ _ (by first | exact inSL_I _ | simp)) (by first | exact inSL_I _ | simp) .nil))))) (.cons rfl (renBlk rfl) rfl (by first | exact inSL_I _ | simp) (.cons rfl ren_noteB rfl (by first | exact inSL_I _ | simp) (.cons rfl (ren_noteB.trans (by rw [List.take_zero, lastN_nil]; rfl)) rfl (by first | exact inSL_I _ | simp) (.cons rfl (by rw [List.take_zero, lastB_nil]; rfl) rfl (by first | exact inSL_I _ | simp) (.cons rfl (Blk.ren_free (by simp) _) rfl (by first | exact inSL_I _ | simp) .nil))))) rfl rfl rfl) ?_
  intro i hR
  replace hR : i ≤ D.length := hR
  first | show W _ _ _ ⟨5, [(3, .vs (flatB (D.drop i) ++ rest).length (I .u8 (flatB (D.drop i) ++ rest))), (0, .f (1000000000 + l1) []), (1, .p 4 0), (1000000, .rp (I .u32 nibT)), (5000000, .rp [])], [(0, .blk 23 (I .u8 id)), (1, .blk 25 (noteX (List.replicate 16 0) 0 0 0)), (2, .blk 25 (noteX (lastN id (D.take i)).id (lastN id (D.take i)).nx (lastN id (D.take i)).vo (lastN id (D.take i)).it)), (3, .blk 4 [.b (lastB id (D.take i))]), (4, .blk 22 [.vs (flatB D ++ rest).length (I .u8 (flatB D ++ rest))])]⟩ | skip
  refine W_blk ?_
  refine W_seq ?_
  rcases (show i < D.length ∨ i = D.length by omega) with hiD | hiD
  ·
    obtain ⟨d, hd⟩ : ∃ d, d = D[i]'hiD := ⟨_, rfl⟩
    have hdk : NOK d := by rw [hd]; exact hD _ (List.getElem_mem _)
    obtain ⟨hdi, hd8, hdr⟩ := hdk
    have hdk : NOK d := ⟨hdi, hd8, hdr⟩
    have hS : flatB (D.drop i) ++ rest = nBd d ++ (flatB (D.drop (i + 1)) ++ rest) := by rw [flatB_drop hiD, ← hd, List.append_assoc]
    have hlS : (flatB (D.drop i)).length ≤ (flatB D).length := by
      conv => rhs; rw [← List.take_append_drop i D, flatB_append, List.length_append]
      omega
    have hlS1 : (flatB (D.drop (i + 1))).length ≤ (flatB D).length := by
      conv => rhs; rw [← List.take_append_drop (i + 1) D, flatB_append, List.length_append]
      omega
    have hb1 : B8 (flatB (D.drop (i + 1)) ++ rest) := B8_append (B8_flatB fun e he => hD e (List.mem_of_mem_drop he)) br
    have hl1 : (flatB (D.drop (i + 1)) ++ rest).length ≤ 1099511626 := by
      rw [List.length_append] at hl ⊢
      omega
    have hl0 : (nBd d ++ (flatB (D.drop (i + 1)) ++ rest)).length ≤ 1099511626 := by
      rw [← hS]
      rw [List.length_append] at hl ⊢
      omega
    rw [hS]
    have hts := take_snoc hiD hd
    have hLk := lastN_prop (id := id) (D := D.take i) (P := fun d => d.id.length = 16) (fun e he => (hD e (List.mem_of_mem_take he)).1) rfl
    refine W_region ?_
    refine WL_cons hI1.fn (.plain rfl (oc_move hI1 (.tmp rfl) rfl rfl)) ?_
    refine WL_cons hI1.fn (.plain rfl (oc_call hI1 (.cons (.tmp rfl) .nil) (.cons1 (by first | exact .free (by first | exact inSL_I _ | simp) | exact .row rfl rfl (by first | exact inSL_I _ | simp) | exact .nils | exact .sl1 rfl (by first | exact cut_I | rfl) (by first | exact inSL_I _ | simp)) (.same (by first | exact inSL_I _ | simp))) (nread_ok d (flatB (D.drop (i + 1)) ++ rest) hdk hb1 (by omega)) (glob_cons rfl rfl (by first | exact inSL_I _ | simp) glob_nil) (by first | exact inSL_I _ | simp) (by first | exact .inl rfl | exact .inr (by simp)) rfl rfl)) ?_
    refine WL_cons hI1.fn (.plain rfl (oc_move hI1 (.tmp rfl) rfl rfl)) ?_
    refine WL_cons hI1.fn (.plain rfl (oc_extract hI1 (.tmp rfl) rfl rfl rfl)) ?_
    refine WL_cons hI1.fn (.plain rfl (oc_extract hI1 (.tmp rfl) rfl rfl rfl)) ?_
    refine WL_cons hI1.fn (.plain rfl (oc_extract hI1 (.tmp rfl) rfl rfl rfl)) ?_
    refine WL_cons hI1.fn (.plain rfl (ox_alloc (cs' := noteX (List.replicate 16 0) 0 0 0) hI1 zero_25 (by unfold noteX; rfl) rfl rfl)) ?_
    refine WL_cons hI1.fn (.plain rfl (ox_store (bk' := .blk 25 (noteX d.id d.nx d.vo d.it)) hI1 (.tmp rfl) (.tmp rfl) rfl shp_25 flat_noteX (by rw [cells_ag, length_noteX hdi]) (by show _ ≤ (noteX _ _ _ _).length; rw [length_noteX rfl]; decide) (put_nall rfl hdi) (by first | exact .here | exact .s1 rfl | exact .s2 rfl rfl | exact .s3 rfl rfl rfl | exact .s4 rfl rfl rfl rfl | exact .s5 rfl rfl rfl rfl rfl | exact .s6 rfl rfl rfl rfl rfl rfl | exact .s7 rfl rfl rfl rfl rfl rfl rfl | exact .s8 rfl rfl rfl rfl rfl rfl rfl rfl) rfl)) ?_
    refine WL_cons hI1.fn (.plain rfl (oc_assign hI1 (.tmp rfl) rfl rfl)) ?_
    refine WL_cons hI1.fn (.plain rfl (oc_assign hI1 (.tmp rfl) rfl rfl)) ?_
    refine WL_nil ?_
    refine W_seq ?_
    refine wsr ?_
    refine WL_cons hI1.fn (.plain rfl (oc_move hI1 (.tmp rfl) rfl rfl)) ?_
    refine WL_cons hI1.fn (.plain rfl (oc_not hI1 (.tmp rfl) rfl rfl)) ?_
    refine WL_cons hI1.fn (.plain rfl (oc_move hI1 (.tmp rfl) rfl rfl)) ?_
    refine WL_cons hI1.fn (.yes rfl rfl (by decide) rfl (oc_move hI1 (.tmp rfl) rfl rfl)) ?_
    refine WL_cons hI1.fn (.yes rfl rfl (by decide) rfl (oc_load hI1 (.tmp rfl) (by first | exact .p rfl | exact .rp) shp_25 (by exact (unit_nall hdi)) rfl rfl)) ?_
    refine WL_yieldG [0, 1, 2, 3, 4, 5] rfl rfl (by decide) rfl hR1 hI1 rfl rfl (.cons (.tmp rfl) .nil) rfl rfl rfl rfl rfl rfl (by decide) (by simp) (by show ∀ k ∈ _, k < 6; decide) (fun ρb wb Hb hB => ?_)
    refine W_region ?_
    refine WL_cons hB.fn (.plain rfl (ox_alloc (cs' := noteX (List.replicate 16 0) 0 0 0) hB zero_25 (by unfold noteX; rfl) rfl rfl)) ?_
    refine WL_cons hB.fn (.plain rfl (ox_store (bk' := .blk 25 (noteX d.id d.nx d.vo d.it)) hB (.tmp rfl) (.tmp rfl) rfl shp_25 flat_noteX (by rw [cells_ag, length_noteX hdi]) (by show _ ≤ (noteX _ _ _ _).length; rw [length_noteX rfl]; decide) (put_nall rfl hdi) (by first | exact .here | exact .s1 rfl | exact .s2 rfl rfl | exact .s3 rfl rfl rfl | exact .s4 rfl rfl rfl rfl | exact .s5 rfl rfl rfl rfl rfl | exact .s6 rfl rfl rfl rfl rfl rfl | exact .s7 rfl rfl rfl rfl rfl rfl rfl | exact .s8 rfl rfl rfl rfl rfl rfl rfl rfl) rfl)) ?_
    refine WL_nil ?_
    refine ⟨rfl, ?_⟩
    refine W_blk ?_
    refine W_seq ?_
    rcases Classical.em (d.id = id) with hq | hq
    ·
      have hLn : lastN id (D.take (i + 1)) = d := by rw [hts, lastN_snoc, if_pos hq]
      have hLb : lastB id (D.take (i + 1)) = true := by rw [hts, lastB_snoc, if_pos hq]
      refine W_region ?_
      refine WL_cons hB.fn (.plain rfl (oc_field hB (.tmp rfl) fld_25_0 (by decide) (by first | exact .p (Nat.zero_add _) | exact .p rfl | exact .rp (by decide)) rfl rfl)) ?_
      refine WL_cons hB.fn (.plain rfl (oc_load hB (.tmp rfl) (by first | exact .p rfl | exact .rp) shp_23 (by exact (unit_nid hdi)) rfl rfl)) ?_
      refine WL_cons hB.fn (.plain rfl (oc_load hB (.tmp rfl) (by first | exact .p rfl | exact .rp) shp_23 (by exact (unit_all hid)) rfl rfl)) ?_
      refine WL_cons hB.fn (.plain rfl (ox_eqI (r := true) hB (.inl rfl) (.tmp rfl) (.tmp rfl) sh_23 kt_23 sg_23 eg_23 hdi hid (wf_u8 hd8) (wf_u8 bid) (by simp [hq]) rfl rfl)) ?_
      refine WL_nil ?_
      refine W_cond rfl (by decide) (fun _ => ?_) (fun hc => by cases hc)
      refine W_region ?_
      refine WL_cons hB.fn (.plain rfl (oc_load hB (.tmp rfl) (by first | exact .p rfl | exact .rp) shp_25 (by exact (unit_nall hdi)) rfl rfl)) ?_
      refine WL_cons hB.fn (.plain rfl (ox_store (bk' := .blk 25 (noteX d.id d.nx d.vo d.it)) hB (.tmp rfl) (.tmp rfl) rfl shp_25 flat_noteX (by rw [cells_ag, length_noteX hdi]) (by show _ ≤ (noteX _ _ _ _).length; rw [length_noteX hLk]; decide) (put_nall hLk hdi) (by first | exact .here | exact .s1 rfl | exact .s2 rfl rfl | exact .s3 rfl rfl rfl | exact .s4 rfl rfl rfl rfl | exact .s5 rfl rfl rfl rfl rfl | exact .s6 rfl rfl rfl rfl rfl rfl | exact .s7 rfl rfl rfl rfl rfl rfl rfl | exact .s8 rfl rfl rfl rfl rfl rfl rfl rfl) rfl)) ?_
      refine WL_cons hB.fn (.plain rfl (ox_store hB (.tmp rfl) .cbool rfl shp_4 (by first | rfl | exact flat_agI) (by first | exact cells1 rfl | (rw [cells_ag, length_I]; omega) | rfl | (simp <;> fail) | (simp; omega)) (by first | exact Nat.le_refl _ | exact Nat.le_of_ble_eq_true rfl | decide | (simp <;> fail) | (simp; omega)) (by first | exact put_one rfl | exact put_blkI (by first | omega | (simp <;> fail) | (simp; omega)) | exact put_rowI (by first | omega | (simp <;> fail) | (simp; omega)) | rfl) (by first | exact .here | exact .s1 rfl | exact .s2 rfl rfl | exact .s3 rfl rfl rfl | exact .s4 rfl rfl rfl rfl | exact .s5 rfl rfl rfl rfl rfl | exact .s6 rfl rfl rfl rfl rfl rfl | exact .s7 rfl rfl rfl rfl rfl rfl rfl | exact .s8 rfl rfl rfl rfl rfl rfl rfl rfl) rfl)) ?_
      refine WL_nil ?_
      refine rd_n (by rfl) ?_
      refine WL_cons hI1.fn (.yes rfl rfl (by decide) rfl (oc_not hI1 (.tmp rfl) rfl rfl)) ?_
      refine WL_cons hI1.fn (.plain rfl (ox_pick hI1 (.tmp rfl) .cbool (.tmp rfl) (by first | exact pick_t | exact pick_f | rfl) rfl rfl)) ?_
      refine WL_nil ?_
      refine W_cond rfl (by decide) (fun hc => by cases hc) (fun _ => ?_)
      refine W_skip ?_
      refine W_region ?_
      refine WL_cons hI1.fn (.plain rfl (oc_move hI1 (.tmp rfl) rfl rfl)) ?_
      refine WL_cons hI1.fn (.plain rfl (oc_move hI1 (.tmp rfl) rfl rfl)) ?_
      refine WL_cons hI1.fn (.plain rfl (ox_len hI1 (.tmp rfl) (by first | exact .row rfl | exact .vs | exact .sl rfl | exact .nils) Tryd.underlying22 rfl rfl rfl)) ?_
      refine WL_cons hI1.fn (.plain rfl (oc_move hI1 (.tmp rfl) rfl rfl)) ?_
      refine WL_cons hI1.fn (.plain rfl (oc_bin hI1 rfl (.tmp rfl) (.tmp rfl) (r := (((nBd d).length : Nat) : Int)) ((i64_sub (by rw [List.length_append] at *; omega)).trans (by rw [List.length_append]; omega)) rfl rfl)) ?_
      refine WL_cons hI1.fn (.plain rfl (ox_cutS (u' := .vs (flatB (D.drop (i + 1)) ++ rest).length (I .u8 (flatB (D.drop (i + 1)) ++ rest))) hI1 (.tmp rfl) (.yes (n := (nBd d).length) (.tmp rfl) (by first | rfl | omega)) .no idx_22 (by first | exact .row rfl (Nat.mul_one _) | exact .sl rfl | exact .vs (by first | omega | (simp <;> fail) | (simp; omega)) | exact .nils) (by rw [List.length_append]; omega) (by first | omega | (simp <;> fail) | (simp; omega)) (by rw [cut_vsI]; exact cut_app) rfl rfl)) ?_
      refine WL_cons hI1.fn (.plain rfl (oc_assign hI1 (.tmp rfl) rfl rfl)) ?_
      refine WL_nil ?_
      exact ⟨(i + 1), (by omega), (weakK (fun k => k) (.cons rfl ren_vsI (by first | exact inSL_I _ | simp) (.cons rfl (by first | exact ren_agI | exact ren_vsI | exact ren_free _ _ (by first | exact inSL_I _ | simp)) (by first | exact inSL_I _ | simp) (.cons rfl (by first | rfl | simp) (by show _ < _; decide) (.cons rfl (by first | exact ren_agI | exact ren_vsI | exact ren_free _ _ (by first | exact inSL_I _ | simp)) (by first | exact inSL_I _ | simp) (.cons rfl (by first | exact ren_agI | exact ren_vsI | exact ren_free _ _ (by first | exact inSL_I _ | simp)) (by first | exact inSL_I _ | simp) .nil))))) (.cons rfl (renBlk rfl) rfl (by first | exact inSL_I _ | simp) (.cons rfl ren_noteB rfl (by first | exact inSL_I _ | simp) (.cons rfl (ren_noteB.trans (by rw [hLn])) rfl (by first | exact inSL_I _ | simp) (.cons rfl (by rw [hLb]; rfl) rfl (by first | exact inSL_I _ | simp) (.cons rfl (Blk.ren_free (by simp) _) rfl (by first | exact inSL_I _ | simp) .nil))))) rfl rfl rfl), (by omega)⟩
    ·
      have hLn : lastN id (D.take (i + 1)) = lastN id (D.take i) := by rw [hts, lastN_snoc, if_neg hq]
      have hLb : lastB id (D.take (i + 1)) = lastB id (D.take i) := by rw [hts, lastB_snoc, if_neg hq]
      refine W_region ?_
      refine WL_cons hB.fn (.plain rfl (oc_field hB (.tmp rfl) fld_25_0 (by decide) (by first | exact .p (Nat.zero_add _) | exact .p rfl | exact .rp (by decide)) rfl rfl)) ?_
      refine WL_cons hB.fn (.plain rfl (oc_load hB (.tmp rfl) (by first | exact .p rfl | exact .rp) shp_23 (by exact (unit_nid hdi)) rfl rfl)) ?_
      refine WL_cons hB.fn (.plain rfl (oc_load hB (.tmp rfl) (by first | exact .p rfl | exact .rp) shp_23 (by exact (unit_all hid)) rfl rfl)) ?_
      refine WL_cons hB.fn (.plain rfl (ox_eqI (r := false) hB (.inl rfl) (.tmp rfl) (.tmp rfl) sh_23 kt_23 sg_23 eg_23 hdi hid (wf_u8 hd8) (wf_u8 bid) (by simp [hq]) rfl rfl)) ?_
      refine WL_nil ?_
      refine W_cond rfl (by decide) (fun hc => by cases hc) (fun _ => ?_)
      refine W_skip ?_
      refine rd_n (by rfl) ?_
      refine WL_cons hI1.fn (.yes rfl rfl (by decide) rfl (oc_not hI1 (.tmp rfl) rfl rfl)) ?_
      refine WL_cons hI1.fn (.plain rfl (ox_pick hI1 (.tmp rfl) .cbool (.tmp rfl) (by first | exact pick_t | exact pick_f | rfl) rfl rfl)) ?_
      refine WL_nil ?_
      refine W_cond rfl (by decide) (fun hc => by cases hc) (fun _ => ?_)
      refine W_skip ?_
      refine W_region ?_
      refine WL_cons hI1.fn (.plain rfl (oc_move hI1 (.tmp rfl) rfl rfl)) ?_
      refine WL_cons hI1.fn (.plain rfl (oc_move hI1 (.tmp rfl) rfl rfl)) ?_
      refine WL_cons hI1.fn (.plain rfl (ox_len hI1 (.tmp rfl) (by first | exact .row rfl | exact .vs | exact .sl rfl | exact .nils) Tryd.underlying22 rfl rfl rfl)) ?_
      refine WL_cons hI1.fn (.plain rfl (oc_move hI1 (.tmp rfl) rfl rfl)) ?_
      refine WL_cons hI1.fn (.plain rfl (oc_bin hI1 rfl (.tmp rfl) (.tmp rfl) (r := (((nBd d).length : Nat) : Int)) ((i64_sub (by rw [List.length_append] at *; omega)).trans (by rw [List.length_append]; omega)) rfl rfl)) ?_
      refine WL_cons hI1.fn (.plain rfl (ox_cutS (u' := .vs (flatB (D.drop (i + 1)) ++ rest).length (I .u8 (flatB (D.drop (i + 1)) ++ rest))) hI1 (.tmp rfl) (.yes (n := (nBd d).length) (.tmp rfl) (by first | rfl | omega)) .no idx_22 (by first | exact .row rfl (Nat.mul_one _) | exact .sl rfl | exact .vs (by first | omega | (simp <;> fail) | (simp; omega)) | exact .nils) (by rw [List.length_append]; omega) (by first | omega | (simp <;> fail) | (simp; omega)) (by rw [cut_vsI]; exact cut_app) rfl rfl)) ?_
      refine WL_cons hI1.fn (.plain rfl (oc_assign hI1 (.tmp rfl) rfl rfl)) ?_
      refine WL_nil ?_
      exact ⟨(i + 1), (by omega), (weakK (fun k => k) (.cons rfl ren_vsI (by first | exact inSL_I _ | simp) (.cons rfl (by first | exact ren_agI | exact ren_vsI | exact ren_free _ _ (by first | exact inSL_I _ | simp)) (by first | exact inSL_I _ | simp) (.cons rfl (by first | rfl | simp) (by show _ < _; decide) (.cons rfl (by first | exact ren_agI | exact ren_vsI | exact ren_free _ _ (by first | exact inSL_I _ | simp)) (by first | exact inSL_I _ | simp) (.cons rfl (by first | exact ren_agI | exact ren_vsI | exact ren_free _ _ (by first | exact inSL_I _ | simp)) (by first | exact inSL_I _ | simp) .nil))))) (.cons rfl (renBlk rfl) rfl (by first | exact inSL_I _ | simp) (.cons rfl ren_noteB rfl (by first | exact inSL_I _ | simp) (.cons rfl (ren_noteB.trans (by rw [hLn])) rfl (by first | exact inSL_I _ | simp) (.cons rfl (by rw [hLb]; rfl) rfl (by first | exact inSL_I _ | simp) (.cons rfl (Blk.ren_free (by simp) _) rfl (by first | exact inSL_I _ | simp) .nil))))) rfl rfl rfl), (by omega)⟩
  ·
    obtain rfl : i = D.length := by omega
    have hS : flatB (D.drop D.length) ++ rest = rest := by rw [List.drop_of_length_le (Nat.le_refl _), flatB_nil, List.nil_append]
    have hT : D.take D.length = D := List.take_length
    have hlr : rest.length ≤ 1099511626 := by rw [List.length_append] at hl; omega
    rw [hS, hT]
    refine W_region ?_
    refine WL_cons hI1.fn (.plain rfl (oc_move hI1 (.tmp rfl) rfl rfl)) ?_
    refine WL_cons hI1.fn (.plain rfl (oc_call hI1 (.cons (.tmp rfl) .nil) (.cons1 (by first | exact .free (by first | exact inSL_I _ | simp) | exact .row rfl rfl (by first | exact inSL_I _ | simp) | exact .nils | exact .sl1 rfl (by first | exact cut_I | rfl) (by first | exact inSL_I _ | simp)) (.same (by first | exact inSL_I _ | simp))) (nread_no rest br (by omega) hno) (glob_cons rfl rfl (by first | exact inSL_I _ | simp) glob_nil) (by first | exact inSL_I _ | simp) (by first | exact .inl rfl | exact .inr (by simp)) rfl rfl)) ?_
    refine WL_cons hI1.fn (.plain rfl (oc_move hI1 (.tmp rfl) rfl rfl)) ?_
    refine WL_cons hI1.fn (.plain rfl (oc_extract hI1 (.tmp rfl) rfl rfl rfl)) ?_
    refine WL_cons hI1.fn (.plain rfl (oc_extract hI1 (.tmp rfl) rfl rfl rfl)) ?_
    refine WL_cons hI1.fn (.plain rfl (oc_extract hI1 (.tmp rfl) rfl rfl rfl)) ?_
    refine WL_cons hI1.fn (.plain rfl (ox_alloc (cs' := noteX (List.replicate 16 0) 0 0 0) hI1 zero_25 (by unfold noteX; rfl) rfl rfl)) ?_
    refine WL_cons hI1.fn (.plain rfl (ox_store (bk' := .blk 25 (noteX (List.replicate 16 0) 0 0 0)) hI1 (.tmp rfl) (.tmp rfl) rfl shp_25 flat_noteX (by rw [cells_ag, length_noteX rfl]) (by show _ ≤ (noteX _ _ _ _).length; rw [length_noteX rfl]; decide) (put_nall rfl rfl) (by first | exact .here | exact .s1 rfl | exact .s2 rfl rfl | exact .s3 rfl rfl rfl | exact .s4 rfl rfl rfl rfl | exact .s5 rfl rfl rfl rfl rfl | exact .s6 rfl rfl rfl rfl rfl rfl | exact .s7 rfl rfl rfl rfl rfl rfl rfl | exact .s8 rfl rfl rfl rfl rfl rfl rfl rfl) rfl)) ?_
    refine WL_cons hI1.fn (.plain rfl (oc_assign hI1 (.tmp rfl) rfl rfl)) ?_
    refine WL_cons hI1.fn (.plain rfl (oc_assign hI1 (.tmp rfl) rfl rfl)) ?_
    refine WL_nil ?_
    refine W_seq ?_
    refine wsr ?_
    refine WL_cons hI1.fn (.plain rfl (oc_move hI1 (.tmp rfl) rfl rfl)) ?_
    refine WL_cons hI1.fn (.plain rfl (oc_not hI1 (.tmp rfl) rfl rfl)) ?_
    refine WL_cons hI1.fn (.plain rfl (oc_move hI1 (.tmp rfl) rfl rfl)) ?_
    refine WL_cons hI1.fn (.no (s1 := ⟨_, (17, .tu []) :: _, _⟩) rfl rfl (by decide) rfl (by decide) (fun t ht => by cases ht; exact ⟨blt_lt rfl, blt_lt rfl⟩) (fun t => setE_cons _ _ _ _) rfl rfl) ?_
    refine WL_cons hI1.fn (.no (s1 := ⟨_, (18, .tu []) :: _, _⟩) rfl rfl (by decide) rfl (by decide) (fun t ht => by cases ht; exact ⟨blt_lt rfl, blt_lt rfl⟩) (fun t => setE_cons _ _ _ _) rfl rfl) ?_
    refine WL_cons hI1.fn (.no (s1 := ⟨_, (19, .tu []) :: _, _⟩) rfl rfl (by decide) rfl (by decide) (fun t ht => by cases ht; exact ⟨blt_lt rfl, blt_lt rfl⟩) (fun t => setE_cons _ _ _ _) rfl rfl) ?_
    refine WL_cons hI1.fn (.no (s1 := ⟨_, (20, .tu []) :: _, _⟩) rfl rfl (by decide) rfl (by decide) (fun t ht => by cases ht; exact ⟨blt_lt rfl, blt_lt rfl⟩) (fun t => setE_cons _ _ _ _) rfl rfl) ?_
    refine WL_cons hI1.fn (.plain rfl (ox_pick hI1 (.tmp rfl) .cbool (.tmp rfl) (by first | exact pick_t | exact pick_f | rfl) rfl rfl)) ?_
    refine WL_nil ?_
    refine W_cond rfl (by decide) (fun _ => ?_) (fun hc => by cases hc)
    refine W_ret ?_
    refine rq_n (.inr rfl) (by rfl) ?_
    refine W_seq ?_
    refine W_drawD hC ?_
    refine WD_cons (.plain rfl (oc_load hC (.tmp rfl) (by first | exact .p rfl | exact .rp) shp_25 (by exact (unit_nall hLD)) rfl rfl)) ?_
    refine WD_cons (.plain rfl (oc_load hC (.tmp rfl) (by first | exact .p rfl | exact .rp) shp_4 (by first | exact unit_one rfl | exact unit_I (by first | omega | (simp <;> fail) | (simp; omega)) | exact unit_c rfl (by decide) | exact unit_c rfl (by simp)) rfl rfl)) ?_
    refine WD_cons (.plain rfl (ox_store (bk' := .blk 25 (noteX (lastN id D).id (lastN id D).nx (lastN id D).vo (lastN id D).it)) hC (.tmp rfl) (.tmp rfl) rfl shp_25 flat_noteX (by rw [cells_ag, length_noteX hLD]) (by show _ ≤ (noteX _ _ _ _).length; rw [length_noteX rfl]; decide) (put_nall rfl hLD) (by first | exact .here | exact .s1 rfl | exact .s2 rfl rfl | exact .s3 rfl rfl rfl | exact .s4 rfl rfl rfl rfl | exact .s5 rfl rfl rfl rfl rfl | exact .s6 rfl rfl rfl rfl rfl rfl | exact .s7 rfl rfl rfl rfl rfl rfl rfl | exact .s8 rfl rfl rfl rfl rfl rfl rfl rfl) rfl)) ?_
    refine WD_cons (.plain rfl (oc_assign hC (.tmp rfl) rfl rfl)) ?_
    refine WD_nil (by kernel_rfl) ?_
    refine W_ret ?_
    exact fin0 (.cons (.cell rfl (.p rfl) shp_25 (unit_nall hLD)) (.cons (.tmp rfl) .nil)) rfl (by simp)
theorem scan_s (s : List Int) (D : List NoteT) (rest : List Int) (hs : s = flatB D ++ rest) (hD : ∀ d ∈ D, NOK d) (br : B8 rest) (hno : NoN rest) (hl : s.length ≤ 1099511626) : FnC Tryd.prog 15 [(1000000, .rp (I .u32 nibT))] [.vs s.length (I .u8 s)] [] [(0, .row 25 19 D.length (nts D))] (.tu [.row 0, .i .i64 (flatB D).length]) := by
  subst hs; exact scan_c D rest hD br hno hl
theorem last_s (s : List Int) (D : List NoteT) (rest : List Int) (hs : s = flatB D ++ rest) (hD : ∀ d ∈ D, NOK d) (br : B8 rest) (hno : NoN rest) (hl : s.length ≤ 1099511626) (id : List Int) (hid : id.length = 16) (bid : B8 id) : FnC Tryd.prog 17 [(1000000, .rp (I .u32 nibT))] [.vs s.length (I .u8 s), .ag (I .u8 id)] [] [] (.tu [.ag (noteX (lastN id D).id (lastN id D).nx (lastN id D).vo (lastN id D).it), .b (lastB id D)]) := by
  subst hs; exact last_c D rest hD br hno hl id hid bid
end Go.Proofs.YtibldhfgapjpfaaDoor
