/- PROVED: whatever arguments it is handed (as the given row reads them), the Go function VaultVolumes returns true and leaves its arguments as they were. The package variables that the row lists hold what the program lays; the given tie closes the card. -/
import Derived.Test.YtfngpppghlbanaaDoorLVaultVolumes
import Derived.Test.YtfngpppghlbanaaDoorRows
import Derived.Test.YtfngpppghlbanaaDoorTie
import Derived.Test.YtfngpppghlbanaaDoorCards
import Derived.SevenTiedAt
import Derived.Stop.Joined
namespace Go.Proofs.YtfngpppghlbanaaDoor
open Go Go.Sk Go.RowKit Go.ChangeShapes Go.WideShapes Go.ChangeAt
theorem own : ownKnob Tryd.prog.godebug = none := by kernel_rfl
theorem laidOut : laidOutB Tryd.prog = true := by kernel_rfl
theorem reads : (Tryd.f7.params.toList.all fun t => Tryd.prog.readableRec t && Nat.blt t Tryd.prog.types.size) = true := by kernel_rfl
theorem shapes : Tryd.f7.params.toList.map (shOf Tryd.prog 8) = ([.sl 1 (.int .u8), .st [.int .i64, .nums 16 .u8, .int .i64, .int .i64, .sl 1 (.int .u8)], .int .i64] : List Sh).map some := by kernel_rfl
def laidL : List (String × DataW Unit) := [("portmanteau/digest.table", Rows.laid_portmanteau_digest_table)]
theorem door_met (os : Os) (args : Array Value) : laidMetH Tryd.prog laidL ((World.doorLaid Tryd.prog 400 os).forCall (fun _ _ => 0) ⟨#[], args, []⟩).memory :=
  laidMetH_of_parts3 (fuel := 8) (laidMet_of_run' 8 (by kernel_rfl) (by kernel_rfl)) (by kernel_rfl) (by kernel_rfl)
theorem globals {W : World} (h : laidMetH Tryd.prog laidL W) : GOK W [(1000000, .rp (I .u32 tbl))] := by
  obtain ⟨ps, hp⟩ := laidMetH_vars (by kernel_rfl) h
  exact (gok_cons (fun ρ => laid_nums hp (n := "portmanteau/digest.table") (k := .u32) (ws := tbl) (g := 0) (t := 108) (e := 63) (by first | exact List.mem_cons_self | exact List.mem_cons_of_mem _ List.mem_cons_self | exact List.mem_cons_of_mem _ (List.mem_cons_of_mem _ List.mem_cons_self) | (unfold tbl; exact List.mem_cons_self)) (by kernel_rfl) (by kernel_rfl) (by kernel_rfl) (by kernel_rfl) (by kernel_rfl) (by kernel_rfl) ρ) gok_nil)
set_option maxRecDepth 100000 in
theorem lifted (os : Os) (started : os.Started) (H : Type) (enc : TypeId × Value → H) :
    ReturnsInHanded {} Tryd.checked os 7 .any (fun w args => (Rows.vaultVolumesSpec.pre enc Tryd.prog Tryd.f7 [] false w args ∧ laidMetH Tryd.prog laidL w) ∧ sizedMet enc Tryd.prog Tryd.f7 (OpenSpec.ofChange Rows.vaultVolumesSpec) false w args)
      (Rows.vaultVolumesSpec.post enc Tryd.prog Tryd.f7 false true false false) := by
  refine returnsInHanded_of_change_and (C := Tryd.checked) (X := fun w _ => laidMetH Tryd.prog laidL w) (fun _ _ _ hh h => h.of_heap hh) own started (by kernel_rfl) Tryd.func7
    (ChangeSpec.witness_shaped (enc := enc) (C := Tryd.checked) (os := os) (X := fun w _ => laidMetH Tryd.prog laidL w) false (World.doorLaid Tryd.prog 400 os) #[.slice none 0 0, .agg #[.int .i64 0, .int .u8 0, .int .u8 0, .int .u8 0, .int .u8 0, .int .u8 0, .int .u8 0, .int .u8 0, .int .u8 0, .int .u8 0, .int .u8 0, .int .u8 0, .int .u8 0, .int .u8 0, .int .u8 0, .int .u8 0, .int .u8 0, .int .i64 0, .int .i64 0, .slice none 0 0], .int .i64 0] 8 rfl (World.shaped_of_RefB (by kernel_rfl) (by kernel_rfl)) (by kernel_rfl) (by kernel_rfl) (by kernel_rfl) (door_met os _)) ?_
  intro W base args ds gs before hval hW _ _ hL _
  refine calls_law laidOut (read_of reads) rfl (by kernel_rfl) Tryd.underlying4 shapes (fun ds hds => ?_) hval hW (fun avs ha hk => ?_)
  · have hn : ds.length = 3 := hds
    match ds, hn with
    | [_, _, _], _ => rfl
  · obtain ⟨v0, q0, rfl, a0, b0⟩ := ha
    obtain ⟨v1, q1, rfl, a1, b1⟩ := b0
    obtain ⟨v2, q2, rfl, a2, rfl⟩ := b1
    obtain ⟨w0, rfl, l0, h0⟩ := arg_bytes a0
    obtain ⟨k1, i1, v1_, n1, x1, rfl, l1, h1, hb1⟩ := arg_rec a1
    obtain ⟨w2, rfl, h2⟩ := arg_int a2
    exact ⟨_, globals hL, law_VaultVolumes w0 h0 k1 i1 v1_ n1 x1 l1 h1 hb1 w2⟩

theorem row_holds : Rows.VaultVolumesSaid :=
  OpenClaim.holds_of_wide 7 Tryd.f7 rfl rfl rfl rfl rfl rfl rfl ⟨rfl, rfl, rfl, rfl, rfl⟩ rfl rfl rfl rfl rfl (by kernel_rfl) Tryd.func7 (by kernel_rfl)
    (of_decide_eq_true (by kernel_rfl)) (by unfold Func.isWrapper; first | (rw [if_pos (by decide +kernel)]; kernel_rfl) | (rw [if_neg (by decide +kernel)]; exact ⟨rfl, rfl⟩))
    (fun os started H enc _ => lifted os started H enc)
theorem stands : (Tryd.f7.params.toList.all fun t => !Tryd.prog.wantsStandIn t) = true := by kernel_rfl
theorem card_holds : Rows.VaultVolumesCardSaid :=
  Claim7.holds_tied_plain_at .later [] [.data] true (true, "f95bd56e4d7860820efa4b9cfc5e449fa8e8236eb45de74e5eb35028913c7759") false
    row_holds (fun _ h => by cases h) (by kernel_rfl) (fun _ h => by cases h) vaultVolumes_row_tie rfl ⟨rfl, rfl⟩ (by kernel_rfl) rfl
    (fun f fn hf hfn => by
      obtain rfl : f = 7 := Option.some.inj ((show Tryd.prog.funcNamed "portmanteau/portmanteaulaw17.VaultVolumes" = some 7 by kernel_rfl).symm.trans hf) |>.symm
      obtain rfl : fn = Tryd.f7 := (Option.some.inj (Tryd.func7.symm.trans hfn)).symm
      exact ⟨by kernel_rfl, stands_of stands⟩)
    (by kernel_rfl)

#print axioms card_holds
end Go.Proofs.YtfngpppghlbanaaDoor
