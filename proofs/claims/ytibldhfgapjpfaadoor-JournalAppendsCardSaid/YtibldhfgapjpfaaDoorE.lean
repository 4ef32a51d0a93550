/- Own work: a calculus for walks through the program, and plain laws: Fw28, Fw29, S05, Fw25, S01, S01b, S06, Fw26, Fw27, S07, S02, S14, S14b, S14c, S14d, S18 -/
import Derived.Test.YtibldhfgapjpfaaDoorD
import Derived.Laws.Externs
import Derived.Lib.AppendZerosOnto
namespace Go.Sk
section
variable {C : Ctx} {Q : Exit → AS → Prop} {s : AS}
theorem wp {ops : Array Oper} {o : Oper} {l : List Oper} {d : DStep} {s1 : AS} (hg : o.guard = none) (hC : C.Ok) (h : OpC C s o d s1) (hn : WL C ops l Q s1) : WL C ops (o :: l) Q s := WL_cons hC.fn (.plain hg h) hn
theorem wsr {id : Nat} {ops : Array Oper} {y : Code} (h : WL C ops ops.toList (thenQ (W C y Q) Q) s) : W C (.seq (.region id ops false) y) Q s := W_seq (W_region h)
end
theorem SetK.s1 {k k1 : Nat} {b b' b1 : Blk} {H : List (Nat × Blk)} (h1 : Nat.beq k1 k = false) : SetK ((k1, b1) :: (k, b) :: H) k b' ((k1, b1) :: (k, b') :: H) := .there (.here) h1
theorem SetK.s2 {k k1 k2 : Nat} {b b' b1 b2 : Blk} {H : List (Nat × Blk)} (h1 : Nat.beq k1 k = false) (h2 : Nat.beq k2 k = false) : SetK ((k1, b1) :: (k2, b2) :: (k, b) :: H) k b' ((k1, b1) :: (k2, b2) :: (k, b') :: H) := .there (.there (.here) h2) h1
theorem SetK.s3 {k k1 k2 k3 : Nat} {b b' b1 b2 b3 : Blk} {H : List (Nat × Blk)} (h1 : Nat.beq k1 k = false) (h2 : Nat.beq k2 k = false) (h3 : Nat.beq k3 k = false) : SetK ((k1, b1) :: (k2, b2) :: (k3, b3) :: (k, b) :: H) k b' ((k1, b1) :: (k2, b2) :: (k3, b3) :: (k, b') :: H) := .there (.there (.there (.here) h3) h2) h1
theorem SetK.s4 {k k1 k2 k3 k4 : Nat} {b b' b1 b2 b3 b4 : Blk} {H : List (Nat × Blk)} (h1 : Nat.beq k1 k = false) (h2 : Nat.beq k2 k = false) (h3 : Nat.beq k3 k = false) (h4 : Nat.beq k4 k = false) : SetK ((k1, b1) :: (k2, b2) :: (k3, b3) :: (k4, b4) :: (k, b) :: H) k b' ((k1, b1) :: (k2, b2) :: (k3, b3) :: (k4, b4) :: (k, b') :: H) := .there (.there (.there (.there (.here) h4) h3) h2) h1
theorem SetK.s5 {k k1 k2 k3 k4 k5 : Nat} {b b' b1 b2 b3 b4 b5 : Blk} {H : List (Nat × Blk)} (h1 : Nat.beq k1 k = false) (h2 : Nat.beq k2 k = false) (h3 : Nat.beq k3 k = false) (h4 : Nat.beq k4 k = false) (h5 : Nat.beq k5 k = false) : SetK ((k1, b1) :: (k2, b2) :: (k3, b3) :: (k4, b4) :: (k5, b5) :: (k, b) :: H) k b' ((k1, b1) :: (k2, b2) :: (k3, b3) :: (k4, b4) :: (k5, b5) :: (k, b') :: H) := .there (.there (.there (.there (.there (.here) h5) h4) h3) h2) h1
theorem SetK.s6 {k k1 k2 k3 k4 k5 k6 : Nat} {b b' b1 b2 b3 b4 b5 b6 : Blk} {H : List (Nat × Blk)} (h1 : Nat.beq k1 k = false) (h2 : Nat.beq k2 k = false) (h3 : Nat.beq k3 k = false) (h4 : Nat.beq k4 k = false) (h5 : Nat.beq k5 k = false) (h6 : Nat.beq k6 k = false) : SetK ((k1, b1) :: (k2, b2) :: (k3, b3) :: (k4, b4) :: (k5, b5) :: (k6, b6) :: (k, b) :: H) k b' ((k1, b1) :: (k2, b2) :: (k3, b3) :: (k4, b4) :: (k5, b5) :: (k6, b6) :: (k, b') :: H) := .there (.there (.there (.there (.there (.there (.here) h6) h5) h4) h3) h2) h1
theorem SetK.s7 {k k1 k2 k3 k4 k5 k6 k7 : Nat} {b b' b1 b2 b3 b4 b5 b6 b7 : Blk} {H : List (Nat × Blk)} (h1 : Nat.beq k1 k = false) (h2 : Nat.beq k2 k = false) (h3 : Nat.beq k3 k = false) (h4 : Nat.beq k4 k = false) (h5 : Nat.beq k5 k = false) (h6 : Nat.beq k6 k = false) (h7 : Nat.beq k7 k = false) : SetK ((k1, b1) :: (k2, b2) :: (k3, b3) :: (k4, b4) :: (k5, b5) :: (k6, b6) :: (k7, b7) :: (k, b) :: H) k b' ((k1, b1) :: (k2, b2) :: (k3, b3) :: (k4, b4) :: (k5, b5) :: (k6, b6) :: (k7, b7) :: (k, b') :: H) := .there (.there (.there (.there (.there (.there (.there (.here) h7) h6) h5) h4) h3) h2) h1
theorem SetK.s8 {k k1 k2 k3 k4 k5 k6 k7 k8 : Nat} {b b' b1 b2 b3 b4 b5 b6 b7 b8 : Blk} {H : List (Nat × Blk)} (h1 : Nat.beq k1 k = false) (h2 : Nat.beq k2 k = false) (h3 : Nat.beq k3 k = false) (h4 : Nat.beq k4 k = false) (h5 : Nat.beq k5 k = false) (h6 : Nat.beq k6 k = false) (h7 : Nat.beq k7 k = false) (h8 : Nat.beq k8 k = false) : SetK ((k1, b1) :: (k2, b2) :: (k3, b3) :: (k4, b4) :: (k5, b5) :: (k6, b6) :: (k7, b7) :: (k8, b8) :: (k, b) :: H) k b' ((k1, b1) :: (k2, b2) :: (k3, b3) :: (k4, b4) :: (k5, b5) :: (k6, b6) :: (k7, b7) :: (k8, b8) :: (k, b') :: H) := .there (.there (.there (.there (.there (.there (.there (.there (.here) h8) h7) h6) h5) h4) h3) h2) h1
theorem DelK.s1 {k k1 : Nat} {b b1 : Blk} {H : List (Nat × Blk)} (h : lk H k = none) (h1 : Nat.beq k1 k = false) : DelK ((k1, b1) :: (k, b) :: H) k ((k1, b1) :: H) := .there (.here h) h1
theorem DelK.s2 {k k1 k2 : Nat} {b b1 b2 : Blk} {H : List (Nat × Blk)} (h : lk H k = none) (h1 : Nat.beq k1 k = false) (h2 : Nat.beq k2 k = false) : DelK ((k1, b1) :: (k2, b2) :: (k, b) :: H) k ((k1, b1) :: (k2, b2) :: H) := .there (.there (.here h) h2) h1
theorem DelK.s3 {k k1 k2 k3 : Nat} {b b1 b2 b3 : Blk} {H : List (Nat × Blk)} (h : lk H k = none) (h1 : Nat.beq k1 k = false) (h2 : Nat.beq k2 k = false) (h3 : Nat.beq k3 k = false) : DelK ((k1, b1) :: (k2, b2) :: (k3, b3) :: (k, b) :: H) k ((k1, b1) :: (k2, b2) :: (k3, b3) :: H) := .there (.there (.there (.here h) h3) h2) h1
theorem DelK.s4 {k k1 k2 k3 k4 : Nat} {b b1 b2 b3 b4 : Blk} {H : List (Nat × Blk)} (h : lk H k = none) (h1 : Nat.beq k1 k = false) (h2 : Nat.beq k2 k = false) (h3 : Nat.beq k3 k = false) (h4 : Nat.beq k4 k = false) : DelK ((k1, b1) :: (k2, b2) :: (k3, b3) :: (k4, b4) :: (k, b) :: H) k ((k1, b1) :: (k2, b2) :: (k3, b3) :: (k4, b4) :: H) := .there (.there (.there (.there (.here h) h4) h3) h2) h1
theorem DelK.s5 {k k1 k2 k3 k4 k5 : Nat} {b b1 b2 b3 b4 b5 : Blk} {H : List (Nat × Blk)} (h : lk H k = none) (h1 : Nat.beq k1 k = false) (h2 : Nat.beq k2 k = false) (h3 : Nat.beq k3 k = false) (h4 : Nat.beq k4 k = false) (h5 : Nat.beq k5 k = false) : DelK ((k1, b1) :: (k2, b2) :: (k3, b3) :: (k4, b4) :: (k5, b5) :: (k, b) :: H) k ((k1, b1) :: (k2, b2) :: (k3, b3) :: (k4, b4) :: (k5, b5) :: H) := .there (.there (.there (.there (.there (.here h) h5) h4) h3) h2) h1
theorem DelK.s6 {k k1 k2 k3 k4 k5 k6 : Nat} {b b1 b2 b3 b4 b5 b6 : Blk} {H : List (Nat × Blk)} (h : lk H k = none) (h1 : Nat.beq k1 k = false) (h2 : Nat.beq k2 k = false) (h3 : Nat.beq k3 k = false) (h4 : Nat.beq k4 k = false) (h5 : Nat.beq k5 k = false) (h6 : Nat.beq k6 k = false) : DelK ((k1, b1) :: (k2, b2) :: (k3, b3) :: (k4, b4) :: (k5, b5) :: (k6, b6) :: (k, b) :: H) k ((k1, b1) :: (k2, b2) :: (k3, b3) :: (k4, b4) :: (k5, b5) :: (k6, b6) :: H) := .there (.there (.there (.there (.there (.there (.here h) h6) h5) h4) h3) h2) h1
theorem DelK.s7 {k k1 k2 k3 k4 k5 k6 k7 : Nat} {b b1 b2 b3 b4 b5 b6 b7 : Blk} {H : List (Nat × Blk)} (h : lk H k = none) (h1 : Nat.beq k1 k = false) (h2 : Nat.beq k2 k = false) (h3 : Nat.beq k3 k = false) (h4 : Nat.beq k4 k = false) (h5 : Nat.beq k5 k = false) (h6 : Nat.beq k6 k = false) (h7 : Nat.beq k7 k = false) : DelK ((k1, b1) :: (k2, b2) :: (k3, b3) :: (k4, b4) :: (k5, b5) :: (k6, b6) :: (k7, b7) :: (k, b) :: H) k ((k1, b1) :: (k2, b2) :: (k3, b3) :: (k4, b4) :: (k5, b5) :: (k6, b6) :: (k7, b7) :: H) := .there (.there (.there (.there (.there (.there (.there (.here h) h7) h6) h5) h4) h3) h2) h1
theorem DelK.s8 {k k1 k2 k3 k4 k5 k6 k7 k8 : Nat} {b b1 b2 b3 b4 b5 b6 b7 b8 : Blk} {H : List (Nat × Blk)} (h : lk H k = none) (h1 : Nat.beq k1 k = false) (h2 : Nat.beq k2 k = false) (h3 : Nat.beq k3 k = false) (h4 : Nat.beq k4 k = false) (h5 : Nat.beq k5 k = false) (h6 : Nat.beq k6 k = false) (h7 : Nat.beq k7 k = false) (h8 : Nat.beq k8 k = false) : DelK ((k1, b1) :: (k2, b2) :: (k3, b3) :: (k4, b4) :: (k5, b5) :: (k6, b6) :: (k7, b7) :: (k8, b8) :: (k, b) :: H) k ((k1, b1) :: (k2, b2) :: (k3, b3) :: (k4, b4) :: (k5, b5) :: (k6, b6) :: (k7, b7) :: (k8, b8) :: H) := .there (.there (.there (.there (.there (.there (.there (.there (.here h) h8) h7) h6) h5) h4) h3) h2) h1
end Go.Sk
namespace Go.Sk
theorem WL_yieldG {C : Ctx} {T : Nat} {ks : List Nat} {ρ1 : Nat → Value} {w1 : World} {H1 : Heap} {l : Nat} {r : Loop} {E : List (Nat × AV)} {ps : List Nat} {as bd : Code} {ops : Array Oper} {rest : List Oper} {Q : Exit → AS → Prop}
    {N : Nat} {E1 : List (Nat × AV)} {H : List (Nat × Blk)} {d y : Nat} {xs : Array Operand} {ts : Array TypeId} {avs : List AV} {p : List (Nat × AV)} {ty : TypeId} {pos : String} {af : Array Edge} {g : Option (Nat × Bool)} {j0 t0 : Nat} {want : Bool} (kb : List Nat)
    (hg0 : g = some (j0, want)) (hj0 : (ops[j0]?).bind (·.dst) = some t0) (ht0 : t0 < 1000000) (he0 : lk E1 t0 = some (.b want))
    (hR : Rng C E ps as bd ks ρ1 w1 H1 l r) (hC : (mkI C T ks ρ1 w1 H1 l r).Ok) (hy : lk E1 y = some (.f (1000000000 + l) [])) (hy6 : Nat.blt y 1000000 = true) (hx : OpVL E1 xs.toList avs p)
    (hlen : ps.length = avs.length) (hnd : nodupB ps = true) (hpT : (ps.all fun q => Nat.blt q C.T && Nat.blt q 1000000) = true) (hd : Nat.blt d T = true) (hd6 : Nat.blt d 1000000 = true) (hlive : lk E1 5000000 = some (.rp []))
    (hkb : ∀ k ∈ ks, k ∈ kb) (hkE : AV.inSL (· ∈ kb) (E1.map Prod.snd)) (hkN : ∀ k ∈ kb, k < N)
    (body : ∀ ρ w H', (mkB C kb ρ w H' l r).Ok → W (mkB C kb ρ w H' l r) as (thenQ (fun s1 => lk s1.E 5000000 = some (.rp []) ∧
      W (mkB C kb ρ w H' l r) bd (roundQ fun x i s2 => WL (mkI C T ks ρ1 w1 H1 l r) ops rest Q ⟨s2.N, (d, .b x) :: (5000000 + i, .rp []) :: noG E1, s2.H⟩) ⟨s1.N, (5000001, .rp []) :: noG s1.E, s1.H⟩) (fun _ _ => False)) ⟨N, ps.zip avs ++ (5000000, .rp []) :: E, H⟩) :
    WL (mkI C T ks ρ1 w1 H1 l r) ops (⟨some d, .call ⟨.value (.tmp y), xs, ts⟩, ty, pos, af, g⟩ :: rest) Q ⟨N, E1, H⟩ := by
  rintro a w ⟨ρ, hst⟩
  have hloop : w.heap[l]? = some (.loop r) := hst.dfr.lp 5000000 (Nat.le_refl _) hlive l r rfl
  have hnd' : ps.Nodup := nodupB_spec hnd
  have hpT' : ∀ q ∈ ps, q < C.T ∧ q < 1000000 := fun q hq => by
    have := List.all_eq_true.1 hpT q hq
    rw [Bool.and_eq_true] at this
    exact ⟨blt_lt this.1, blt_lt this.2⟩
  have hargs := hx.sim (ρ := ρ) (w := w) (O := fun b => C.X b ∨ owned ρ (lk H) b) (a := a) (fun t v hm => hst.st.env t v (hx.pre t v hm))
  have hlen2 : ps.length = (xs.toList.map a.eval).length := by rw [simL_length hargs]; exact hlen
  have heval : a.eval (.tmp y) = .func (.yield l) #[] #[] := by
    obtain ⟨cv, h1, h2⟩ := hst.st.env y _ hy
    simp only [AV.sim, tgt_yield] at h2
    obtain ⟨cvs, rfl, h3⟩ := h2
    have : cvs = [] := by have := simL_length h3; simpa using this
    subst this
    exact slot_eval h1 (blt_lt hy6)
  -- what the caller knows of its temporaries
  have henv : ∀ t av, lk E t = some av → ∃ cv, slot { tmps := r.tmps, defers := [] } t = some cv ∧ av.sim ρ w (fun b => C.X b ∨ owned ρ (lk H) b) cv := by
    intro t av ht
    obtain ⟨cv, h1, h2⟩ := hR.env t av ht
    refine ⟨cv, h1, sim_mono (S := (· ∈ ks)) (fun x v hn hc => ⟨hst.fr.cellL (L := (· = l)) (fun b hb _ => ⟨r, by rw [hb]; exact hR.loop⟩) (fun h => hn (.inr h)) hc, ?_⟩) (fun k hk => (hst.fix k hk).2) av cv (hR.eK t av ht) h2⟩
    rintro (h3 | h3)
    · exact hn (.inl h3)
    · rcases hst.own _ h3 with (h4 | h4) | h4
      · exact hn (.inr h4)
      · have := hR.loop
        unfold World.cell? at hc
        rw [h4, this] at hc; cases hc
      · exact absurd (block_lt_of_cell hc) (Nat.not_lt.2 h4)
  obtain ⟨tm, htm⟩ : ∃ tm, (r.params.zip (xs.map a.eval)).foldl (fun tmps (t, a) => tmps.setIfInBounds t a) r.tmps = tm := ⟨_, rfl⟩
  have hfold : tm = (ps.zip (xs.toList.map a.eval)).foldl (fun tmps (t, a) => tmps.setIfInBounds t a) r.tmps := by
    rw [← htm, ← Array.foldl_toList, Array.toList_zip, hR.params, Array.toList_map]
  obtain ⟨f1, f2, f3⟩ := foldl_set ps (xs.toList.map a.eval) r.tmps hnd' (fun q hq => by rw [hR.size]; exact (hpT' q hq).1) hlen2
  rw [← hfold] at f1 f2 f3
  have hrun : (Instr.yield l (xs.map a.eval)).run C.P w = .ok (.round l r.fn tm as bd) w := by
    rw [run_yield hloop (by rw [← Array.length_toList, ← Array.length_toList, hR.params, Array.toList_map]; exact hlen2.symm), htm, hR.assign, hR.body]
  have hok : (mkB C kb ρ w (lk H) l r).Ok := ⟨hC.fn, hC.depth, hC.mixed⟩
  -- a round begins
  have hB : StR (mkB C kb ρ w (lk H) l r) N (lk (ps.zip avs ++ (5000000, .rp []) :: E)) (lk H) ρ { tmps := tm, defers := [] } w := by
    refine ⟨⟨fun t av ht => ?_, hst.st.hok, hst.st.hX, fun t av ht => ?_, hst.st.bH⟩, by show tm.size = C.T; rw [f1]; exact hR.size, ⟨Marks.nil, fun t ht he => ?_⟩, Fr.refl _ _, fun b hb => .inl (.inl hb), fun k hk => ⟨hkN k hk, rfl⟩⟩
    · rw [lk_append] at ht
      cases hz : lk (ps.zip avs) t with
      | some av' =>
        rw [hz] at ht; simp at ht; subst ht
        obtain ⟨i, h1, h2⟩ := lk_zip hz
        obtain ⟨cv, h3, h4⟩ := simL_get hargs h2
        exact ⟨cv, by unfold slot; rw [if_pos (hpT' t (List.mem_of_getElem? h1)).2]; exact f3 i t cv h1 h3, h4⟩
      | none =>
        rw [hz] at ht
        simp only at ht
        rw [lk_cons] at ht
        split at ht
        · rename_i e
          cases ht
          subst e
          refine ⟨_, by unfold slot; rw [if_neg (by decide)], ?_⟩
          simp only [AV.sim]
          exact ⟨_, [], rfl, fun h => absurd h (Nat.lt_irrefl 0), by simp [AV.simL]⟩
        · obtain ⟨cv, h1, h2⟩ := henv t av ht
          refine ⟨cv, ?_, h2⟩
          unfold slot at h1 ⊢
          split
          · rename_i h6
            rw [if_pos h6] at h1
            exact (f2 t (lk_zip_none hlen hz)).trans h1
          · rename_i h6
            rw [if_neg h6] at h1
            exact h1
    · rw [lk_append] at ht
      cases hz : lk (ps.zip avs) t with
      | some av' =>
        rw [hz] at ht; simp at ht; subst ht
        obtain ⟨i, _, h2⟩ := lk_zip hz
        exact inSL_iff.1 (hx.bd fun t v hm => hst.st.bE t v (hx.pre t v hm)) _ (List.mem_of_getElem? h2)
      | none =>
        rw [hz] at ht
        simp only at ht
        rw [lk_cons] at ht
        split at ht
        · cases ht; simp [AV.inS, AV.inSL]
        · exact inS_mono (fun k hk => hkN k (hkb k hk)) av (hR.eK t av ht)
    · rw [lk_append] at he
      cases hz : lk (ps.zip avs) t with
      | some av' =>
        obtain ⟨i, h1, _⟩ := lk_zip hz
        exact absurd (hpT' t (List.mem_of_getElem? h1)).2 (Nat.not_lt.2 (Nat.le_trans (by decide) ht))
      | none =>
        rw [hz] at he
        simp only at he
        rw [lk_cons] at he
        split at he
        · rename_i e
          subst e
          intro l' r' hr'
          cases hr'
          exact hloop
        · exact absurd (hR.noG t _ he) (Nat.not_lt.2 ht)
  have hwant : Region.wanted (⟨some d, .call ⟨.value (.tmp y), xs, ts⟩, ty, pos, af, g⟩ : Oper) (yielded ops a.tmps) = true := by
    obtain ⟨cv, q1, q2⟩ := hst.st.env t0 _ he0
    simp only [AV.sim] at q2
    subst q2
    simp [Region.wanted, hg0, yielded_of hj0 q1 ht0]
  unfold wpListIn
  rw [if_pos hwant]
  refine ⟨fun f _ => hC.fn f, ?_⟩
  rw [Oper.semAt_eq _ _ _ (fun _ h => by cases h)]
  have hexec : (execOp a.eval ⟨some d, .call ⟨.value (.tmp y), xs, ts⟩, ty, pos, af, g⟩).run C.P w = .ok (.round l r.fn tm as bd) w := by
    simp only [execOp, resolve, heval, Deferred.ofValue, Sem.run_bind, Sem.run_pure, Result.andThen_ok, invoke, Array.empty_append]
    exact hrun
  rw [hexec, Oper.uponIn_round]
  refine ⟨fun h => (by rw [hC.depth] at h; cases h), ?_⟩
  -- a round ends
  have fin : ∀ (i : Nat) (x : Bool) (s2 : AS) (ρ2 : Nat → Value) (a2 : Act) (w3 : World), StR (mkB C kb ρ w (lk H) l r) s2.N (lk s2.E) (lk s2.H) ρ2 a2 w3 → w3.heap[l]? = some (.loop (recAt r 1)) →
      WL (mkI C T ks ρ1 w1 H1 l r) ops rest Q ⟨s2.N, (d, .b x) :: (5000000 + i, .rp []) :: noG E1, s2.H⟩ →
      wpListIn C.F (C.n - 1) C.P ops (fun e a' w' => ∃ s', Q e s' ∧ St (mkI C T ks ρ1 w1 H1 l r) s' a' w') rest (a.put (some d) (.bool x)) (w3.putObj l (.loop (recAt r i))) := by
    intro i x s2 ρ2 a2 w3 h2 hl3 hq
    refine hq _ _ ⟨ρ2, ?_⟩
    have hfr3 : Fr w (fun b => owned ρ (lk H) b ∨ b = l) (w3.putObj l (.loop (recAt r i))) := h2.fr.trans fr_putLoop (fun b _ hb => .inr hb)
    have hb : StR (mkI C T ks ρ1 w1 H1 l r) s2.N (lk (noG E1)) (lk s2.H) ρ2 a (w3.putObj l (.loop (recAt r i))) :=
      hst.noG.back (a' := a) (L := (· = l)) (ks := kb) rfl hfr3 (h2.st.hok.putLoop hl3) h2.st.bH h2.own (fun b hb _ => ⟨r, by rw [hb]; exact hloop⟩) (fun b hb => .inl (.inr hb)) (fun k hk => h2.fix k hk)
        (fun t av ht => lk_mem' hkE (lk_noG ht).1) hkb (Dfr.noG (hst.dfr.marks.step fun D hD => by
          rw [hfr3.block D (Array.getElem?_eq_some_iff.1 hD).1]
          · exact hD
          · rintro (h | h)
            · obtain ⟨c, t, f, hc⟩ := owned_cells hst.st.hok h; rw [hD] at hc; cases hc
            · rw [h, hloop] at hD; cases hD))
    refine (hb.gh (i := i) fun l' r' hr' => ?_).setB (blt_lt hd) (blt_lt hd6)
    cases hr'
    rw [Nat.add_sub_cancel_left]
    exact World.putObj_heap_same (Array.getElem?_eq_some_iff.1 hl3).1
  refine RoundIn.mono (roundIn_of_wpIn (R := fun e w' => ∃ v, e = .returned v ∧ wpListIn C.F (C.n - 1) C.P ops (fun e a' w' => ∃ s', Q e s' ∧ St (mkI C T ks ρ1 w1 H1 l r) s' a' w') rest (a.put (some d) v) w') (hC.fn _) ?_) (by rintro e w' ⟨v, rfl, h⟩; exact h)
  refine wpIn_mono (body ρ w (lk H) hok _ _ ⟨ρ, hB⟩) ?_
  rintro e a1 w2 ⟨s1, q, ρ1', h1⟩
  cases e with
  | normal =>
    obtain ⟨q1, q2⟩ := q
    have hl2 : w2.heap[l]? = some (.loop r) := h1.dfr.lp 5000000 (Nat.le_refl _) q1 l r rfl
    refine ⟨_, run_beginRound hl2 hR.state, ?_⟩
    have h1' := (h1.putLoop (o := .loop { r with state := .busy }) hl2 (.inl (.inr rfl))).gh (i := 1) (fun l' r' hr' => by
      cases hr'
      exact World.putObj_heap_same (Array.getElem?_eq_some_iff.1 hl2).1)
    refine wpIn_mono (q2 _ _ ⟨ρ1', h1'⟩) ?_
    rintro e a2 w3 ⟨s2, hq9, ρ2, h2⟩
    unfold roundQ at hq9
    obtain ⟨hg, q⟩ := hq9
    have hl3 : w3.heap[l]? = some (.loop (recAt r 1)) := h2.dfr.lp 5000001 (by decide) hg l r rfl
    cases e with
    | normal =>
      refine ⟨_, _, run_endRound none hl3, _, rfl, ?_⟩
      have := fin 0 true s2 ρ2 a2 w3 h2 hl3 q
      rw [recAt_zero] at this
      have hr : ({ recAt r 1 with state := (if (none : Option Code).isNone then .ready else .done), pending := none } : Loop) = r := by
        show ({ r with state := .ready, pending := none } : Loop) = r
        rw [← hR.state, ← hR.pend]
      rw [hr]; exact this
    | ret => exact ⟨_, _, run_endRound (some .ret) hl3, _, rfl, fin 2 false s2 ρ2 a2 w3 h2 hl3 q⟩
    | exit i =>
      refine ⟨_, _, run_endRound (some (.exit i)) hl3, _, rfl, ?_⟩
      have := fin (3 + i) false s2 ρ2 a2 w3 h2 hl3 q
      rw [recAt_exit] at this
      exact this
    | goto t => exact q.elim
    | panic c => exact q.elim
    | outgrown => exact q.elim
  | exit i => exact q.elim
  | ret => exact q.elim
  | goto t => exact q.elim
  | panic c => exact q.elim
  | outgrown => exact q.elim
@[simp] theorem inSL_app {S : Nat → Prop} {xs ys : List AV} : AV.inSL S (xs ++ ys) ↔ AV.inSL S xs ∧ AV.inSL S ys := by
  simp only [inSL_iff, List.mem_append]
  exact ⟨fun h => ⟨fun x hx => h x (.inl hx), fun x hx => h x (.inr hx)⟩, fun h x hx => hx.elim (h.1 x) (h.2 x)⟩
@[simp] theorem inSL_mapI {S : Nat → Prop} {k : IntKind} {l : List Int} : AV.inSL S (List.map (AV.i k) l) := inSL_I l
end Go.Sk
namespace Go.Sk
def rol (x : Int) (n : Nat) : Int := x % 2 ^ (32 - n) * 2 ^ n + x / 2 ^ (32 - n)
abbrev ad (x y : Int) : Int := (x + y) % 4294967296
def q1 (a b : Int) : Int := ad a b
def q2 (a b d : Int) : Int := rol (xr d (q1 a b)) 16
def q3 (a b c d : Int) : Int := ad c (q2 a b d)
def q4 (a b c d : Int) : Int := rol (xr b (q3 a b c d)) 12
section
variable {key nonce b : List Int} {n : Int}
end
theorem unit_at {k : IntKind} {ws : List Int} {m : Nat} {v : Int} (h : m < ws.length) (hv : ws.getD m 0 = v) : unit false 1 ((I k ws).drop m) (.i k v) := by subst hv; exact unit_I h
attribute [irreducible] rol q1 q2 q3 q4
end Go.Sk
namespace Go.Sk
open Go.RowKit
theorem run_equalIn_ptr_nil {P : Program} {w : World} (d : Nat) {t e : TypeId} (a : Option Addr) (h : P.underlying t = some (.pointer e)) : (Op.equalIn (d + 1) t (.pointer a) (.pointer none)).run P w = .ok a.isNone w := by
  cases a <;> simp [Op.equalIn, run_underlying h]
section
variable {C : Ctx} {N : Nat} {E : List (Nat × AV)} {H : List (Nat × Blk)} {d : Nat} {ty : TypeId} {pos : String} {af : Array Edge} {g : Option (Nat × Bool)}
inductive PtrN : AV → Bool → Prop
  | p {k off : Nat} : PtrN (.p k off) false
  | rp {x : AV} {xs : List AV} : PtrN (.rp (x :: xs)) false
  | nilp : PtrN .nilp true
theorem oc_ptrnil {op : BinOp} {x : Operand} {av : AV} {z r : Bool} {p : List (Nat × AV)} {xt yt e : TypeId} (hC : C.Ok) (hop : op = .eql ∨ op = .neq) (hx : OpV E x av p) (hp : PtrN av z) (hu : C.P.underlying xt = some (.pointer e)) (hr : (if op = .eql then z else !z) = r)
    (hd : Nat.blt d C.T = true) (hd6 : Nat.blt d 1000000 = true) :
    OpC C ⟨N, E, H⟩ ⟨some d, .binOp op xt x (.const (.pointer none)) yt, ty, pos, af, g⟩ ⟨⟨some d, .binOp op xt x (.const (.pointer none)) yt, ty, pos, af, g⟩, false, p, [], [], [], .b r⟩ ⟨N, (d, .b r) :: E, H⟩ := by
  subst hr
  refine oc_pure hC rfl hd hd6 (fun _ h => by cases h) hx.pre (by simp) (fun ρ w O A hpr _ => ⟨.bool (if op = .eql then z else !z), ?_, by simp only [AV.sim]⟩) (fun S _ _ => inS_b)
  have h1 := hx.sim hpr
  obtain ⟨a, ha, hz⟩ : ∃ a : Option Addr, A.eval x = .pointer a ∧ a.isNone = z := by
    cases hp with
    | p => simp only [AV.sim] at h1; obtain ⟨bl, _, h2⟩ := h1; exact ⟨_, h2, rfl⟩
    | rp => simp only [AV.sim] at h1; obtain ⟨ad, cvs, h2, _⟩ := h1; exact ⟨_, h2, rfl⟩
    | nilp => simp only [AV.sim] at h1; exact ⟨_, h1, rfl⟩
  have e2 : A.eval (.const (.pointer none)) = .pointer none := rfl
  have hg : (eqGuard op xt x (.const (.pointer none)) (.pointer a) (.pointer none)).run C.P w = .ok () w := by
    unfold eqGuard
    rcases hop with rfl | rfl <;> rfl
  have he : (Op.equal xt (.pointer a) (.pointer none)).run C.P w = .ok a.isNone w := run_equalIn_ptr_nil 9999 a hu
  simp only [execOp, ha, e2, Sem.run_bind, hg, Result.andThen_ok]
  subst hz
  rcases hop with rfl | rfl <;> simp [binOp, he]
end
@[simp] theorem inSL_take_map {S : Nat → Prop} {k : IntKind} {l : List Int} {m : Nat} : AV.inSL S (List.take m (List.map (AV.i k) l)) := by rw [← List.map_take]; exact inSL_I _
@[simp] theorem inSL_drop_map {S : Nat → Prop} {k : IntKind} {l : List Int} {m : Nat} : AV.inSL S (List.drop m (List.map (AV.i k) l)) := by rw [← List.map_drop]; exact inSL_I _
theorem inSL_drop {S : Nat → Prop} {l : List AV} {m : Nat} (h : AV.inSL S l) : AV.inSL S (l.drop m) := inSL_iff.2 fun x hx => inSL_iff.1 h x (List.mem_of_mem_drop hx)
theorem inSL_take {S : Nat → Prop} {l : List AV} {m : Nat} (h : AV.inSL S l) : AV.inSL S (l.take m) := inSL_iff.2 fun x hx => inSL_iff.1 h x (List.mem_of_mem_take hx)
@[simp] theorem inSL_dt_map {S : Nat → Prop} {k : IntKind} {l : List Int} {m n : Nat} : AV.inSL S (List.drop n (List.take m (List.map (AV.i k) l))) := inSL_drop inSL_take_map
@[simp] theorem inSL_td_map {S : Nat → Prop} {k : IntKind} {l : List Int} {m n : Nat} : AV.inSL S (List.take n (List.drop m (List.map (AV.i k) l))) := inSL_take inSL_drop_map
end Go.Sk
namespace Go.Sk
def ix7 (b : List Int) : Nat := (b.takeWhile fun c => !decide (c < 128)).length
theorem ix7_le (b : List Int) : ix7 b ≤ b.length := (List.takeWhile_sublist _).length_le
theorem ix7_cons (c : Int) (b : List Int) : ix7 (c :: b) = if c < 128 then 0 else ix7 b + 1 := by
  unfold ix7
  rw [List.takeWhile_cons]
  split <;> rename_i h
  · rw [if_neg (by simpa using h)]; rfl
  · rw [if_pos (by simpa using h)]; rfl
theorem ix7_spec : ∀ (b : List Int) (i : Nat), i ≤ ix7 b → i < b.length → (b.getD i 0 < 128 → ix7 b = i) ∧ (¬ b.getD i 0 < 128 → i + 1 ≤ ix7 b)
  | [], i, _, h => by simp at h
  | c :: b, 0, _, _ => by
    rw [ix7_cons]
    simp only [List.getD_cons_zero]
    refine ⟨fun h => if_pos h, fun h => ?_⟩
    rw [if_neg h]; omega
  | c :: b, i + 1, hi, h => by
    rw [ix7_cons] at hi ⊢
    split at hi
    · omega
    · rename_i hc
      obtain ⟨h1, h2⟩ := ix7_spec b i (by omega) (by simpa using h)
      simp only [List.getD_cons_succ]
      rw [if_neg hc]
      refine ⟨fun h => by rw [h1 h], fun h => ?_⟩
      have := h2 h; omega
def lastOf (b : List Int) : Int := if ix7 b < b.length then (ix7 b : Int) else -1
def vnum : List Int → Int
  | [] => 0
  | c :: r => vnum r * 128 + c % 128
theorem vnum_range : ∀ (l : List Int), 0 ≤ vnum l ∧ vnum l < 128 ^ l.length
  | [] => by simp [vnum]
  | c :: r => by
    have h := vnum_range r
    have h2 : (128 : Int) ^ (r.length + 1) = 128 ^ r.length * 128 := Int.pow_succ _ _
    simp only [vnum, List.length_cons]
    omega
theorem vnum_drop {l : List Int} {i : Nat} (h : i < l.length) : vnum (l.drop i) = vnum (l.drop (i + 1)) * 128 + l.getD i 0 % 128 := by
  rw [List.drop_eq_getElem_cons h, vnum, List.getD_eq_getElem?_getD, List.getElem?_eq_getElem h]; rfl
theorem and127 : ∀ c : _root_.Fin 256, binI .and .u8 (c.val : Int) 127 = (c.val : Int) % 128 := by decide +kernel
theorem and_127 {c : Int} (h : 0 ≤ c ∧ c < 256) : binI .and .u8 c 127 = c % 128 := by
  obtain ⟨a, rfl⟩ := Int.eq_ofNat_of_zero_le h.1
  exact and127 ⟨a, by omega⟩
theorem or64 {a b : Nat} (ha : a < 9223372036854775808) (hb : b < 9223372036854775808) (hab : a ||| b < 9223372036854775808) : binI .or .i64 (a : Int) (b : Int) = ((a ||| b : Nat) : Int) := by
  show IntKind.i64.wrap ((BitVec.ofInt 64 (a : Int) ||| BitVec.ofInt 64 (b : Int)).toNat : Int) = _
  have e1 : (BitVec.ofInt 64 (a : Int)).toNat = a := by simp; omega
  have e2 : (BitVec.ofInt 64 (b : Int)).toNat = b := by simp; omega
  rw [BitVec.toNat_or, e1, e2, i64_conv (by omega)]
theorem or_add64 {a b : Int} (ha : 0 ≤ a) (ha2 : a < 36028797018963968) (hb : 0 ≤ b ∧ b < 128) : binI .or .i64 (a * 128) b = a * 128 + b := by
  obtain ⟨x, rfl⟩ := Int.eq_ofNat_of_zero_le ha
  obtain ⟨y, rfl⟩ := Int.eq_ofNat_of_zero_le hb.1
  have e : x * 128 ||| y = x * 128 + y := by
    have h := Nat.shiftLeft_add_eq_or_of_lt (show y < 2 ^ 7 by omega) x
    rw [Nat.shiftLeft_eq] at h
    exact h.symm
  have := or64 (a := x * 128) (b := y) (by omega) (by omega) (by rw [e]; omega)
  rw [show (((x * 128 : Nat)) : Int) = (x : Int) * 128 by omega] at this
  rw [this, e]; omega
theorem vnum_lt {l : List Int} (h : l.length ≤ 6) : 0 ≤ vnum l ∧ vnum l < 4398046511104 := by
  have h1 := vnum_range l
  have h2 : (128 : Int) ^ l.length ≤ 128 ^ 6 := by
    have : (128 : Nat) ^ l.length ≤ 128 ^ 6 := Nat.pow_le_pow_right (by decide) h
    exact_mod_cast this
  have h3 : (128 : Int) ^ 6 = 4398046511104 := by decide
  omega
theorem vnum_end {l : List Int} : vnum (l.drop l.length) = 0 := by rw [List.drop_of_length_le (Nat.le_refl _)]; rfl
inductive NumR (b : List Int) (most : Int) : Int → List Int → Int → Prop
  | long (h : 6 ≤ ix7 b) : NumR b most 4 b 0
  | short (h : ix7 b = b.length) (h6 : b.length < 6) : NumR b most 2 b 0
  | nought (h : ix7 b < b.length) (h6 : ix7 b < 6) (h0 : 0 < ix7 b) (hz : b.getD (ix7 b) 0 = 0) : NumR b most 4 (b.drop (ix7 b + 1)) 0
  | great (h : ix7 b < b.length) (h6 : ix7 b < 6) (hz : ix7 b = 0 ∨ b.getD (ix7 b) 0 ≠ 0) (hm : most < vnum (b.take (ix7 b + 1)) ∨ 1099511627775 < vnum (b.take (ix7 b + 1))) : NumR b most 3 (b.drop (ix7 b + 1)) 0
  | ok (h : ix7 b < b.length) (h6 : ix7 b < 6) (hz : ix7 b = 0 ∨ b.getD (ix7 b) 0 ≠ 0) (hm : vnum (b.take (ix7 b + 1)) ≤ most ∧ vnum (b.take (ix7 b + 1)) ≤ 1099511627775) : NumR b most 0 (b.drop (ix7 b + 1)) (vnum (b.take (ix7 b + 1)))
theorem take_get {b : List Int} {i k : Nat} (h : i < k) : (b.take k).getD i 0 = b.getD i 0 := by
  simp only [List.getD_eq_getElem?_getD, List.getElem?_take]; rw [if_pos h]
theorem and64 {a : Nat} (ha : a < 9223372036854775808) : binI .and .i64 (a : Int) 127 = ((a % 128 : Nat) : Int) := by
  show IntKind.i64.wrap ((BitVec.ofInt 64 (a : Int) &&& BitVec.ofInt 64 127).toNat : Int) = _
  have e1 : (BitVec.ofInt 64 (a : Int)).toNat = a := by simp; omega
  have e2 : (BitVec.ofInt 64 127).toNat = 127 := by decide
  have e3 : a &&& 127 = a % 128 := Nat.and_two_pow_sub_one_eq_mod a 7
  rw [BitVec.toNat_and, e1, e2, e3, i64_conv (by omega)]
theorem or128' : ∀ c : _root_.Fin 128, binI .or .i64 (c.val : Int) 128 = ((128 + c.val : Nat) : Int) := by decide +kernel
theorem or128 {c : Nat} (h : c < 128) : binI .or .i64 (c : Int) 128 = ((128 + c : Nat) : Int) := or128' ⟨c, h⟩
def putN : Nat → Nat → List Int
  | 0, n => [(n : Int)]
  | f + 1, n => if n < 128 then [(n : Int)] else ((128 + n % 128 : Nat) : Int) :: putN f (n / 128)
def putV (n : Nat) : List Int := putN 6 n
theorem putN_lt {f n : Nat} (h : n < 128) : putN f n = [(n : Int)] := by
  cases f with
  | zero => rfl
  | succ f => rw [putN, if_pos h]
theorem putN_ge {f n : Nat} (h : ¬ n < 128) : putN (f + 1) n = ((128 + n % 128 : Nat) : Int) :: putN f (n / 128) := by rw [putN, if_neg h]
theorem B8_putN : ∀ (f n : Nat), n < 128 ^ (f + 1) → B8 (putN f n)
  | 0, n, h => by intro x hx; simp [putN] at hx; subst hx; omega
  | f + 1, n, h => by
    rw [putN]
    split
    · intro x hx; simp at hx; subst hx; omega
    · intro x hx
      rcases List.mem_cons.1 hx with rfl | hx
      · omega
      · refine B8_putN f (n / 128) ?_ x hx
        rw [Nat.pow_succ] at h
        exact Nat.div_lt_of_lt_mul (by rw [Nat.mul_comm]; exact h)
theorem length_putN : ∀ (f n : Nat), (putN f n).length ≤ f + 1
  | 0, n => by simp [putN]
  | f + 1, n => by
    rw [putN]
    split
    · simp
    · have := length_putN f (n / 128)
      simp only [List.length_cons]; omega
structure PutR (n0 : Nat) (em : List Int) (f cur : Nat) : Prop where
  all : em ++ putN f cur = putV n0
  lt : cur < 128 ^ (f + 1)
theorem PutR.zero {n : Nat} (h : n ≤ 1099511627775) : PutR n [] 6 n := ⟨rfl, by omega⟩
theorem PutR.succ {n0 f cur : Nat} {em : List Int} (h : PutR n0 em f cur) (hc : ¬ cur < 128) : ∃ g, f = g + 1 ∧ PutR n0 (em ++ [((128 + cur % 128 : Nat) : Int)]) g (cur / 128) := by
  cases f with
  | zero => have := h.lt; omega
  | succ g =>
    refine ⟨g, rfl, ?_, ?_⟩
    · rw [← h.all, putN_ge hc]; simp
    · have := h.lt
      rw [Nat.pow_succ] at this
      exact Nat.div_lt_of_lt_mul (by rw [Nat.mul_comm]; exact this)
theorem PutR.end {n0 f cur : Nat} {em : List Int} (h : PutR n0 em f cur) (hc : cur < 128) : em ++ [(cur : Int)] = putV n0 := by rw [← h.all, putN_lt hc]
def fixL (n : Nat) : Nat → List Int
  | 0 => []
  | w + 1 => ((n % 256 : Nat) : Int) :: fixL (n / 256) w
theorem length_fixL : ∀ (n w : Nat), (fixL n w).length = w
  | _, 0 => rfl
  | n, w + 1 => by rw [fixL, List.length_cons, length_fixL]
theorem fixL_succ : ∀ (n w : Nat), fixL n w ++ [((n / 256 ^ w % 256 : Nat) : Int)] = fixL n (w + 1)
  | n, 0 => by simp [fixL]
  | n, w + 1 => by
    rw [fixL, List.cons_append, show n / 256 ^ (w + 1) = n / 256 / 256 ^ w by rw [Nat.div_div_eq_div_mul, Nat.pow_succ, Nat.mul_comm]]
    rw [fixL_succ (n / 256) w]; rfl
theorem B8_fixL : ∀ (n w : Nat), B8 (fixL n w)
  | _, 0 => by intro x hx; cases hx
  | n, w + 1 => by
    intro x hx
    rw [fixL] at hx
    rcases List.mem_cons.1 hx with rfl | hx
    · omega
    · exact B8_fixL _ _ x hx
theorem fix_next {n i : Nat} : ((n / 256 ^ (i + 1) : Nat) : Int) = ((n / 256 ^ i : Nat) : Int) / 2 ^ 8 := by
  rw [Nat.pow_succ, ← Nat.div_div_eq_div_mul]
  show ((n / 256 ^ i / 256 : Nat) : Int) = ((n / 256 ^ i : Nat) : Int) / 256
  rw [Int.natCast_ediv]; rfl
theorem fix_byte {x : Nat} : IntKind.u8.wrap (x : Int) = ((x % 256 : Nat) : Int) := by rw [u8_wrap]; omega
def vle : List Int → Int
  | [] => 0
  | c :: r => vle r * 256 + c
theorem vle_range : ∀ {l : List Int}, B8 l → 0 ≤ vle l ∧ vle l < 256 ^ l.length
  | [], _ => by simp [vle]
  | c :: r, h => by
    have h1 := vle_range (l := r) (fun x hx => h x (List.mem_cons_of_mem _ hx))
    have h0 := h c List.mem_cons_self
    have h2 : (256 : Int) ^ (r.length + 1) = 256 ^ r.length * 256 := Int.pow_succ _ _
    simp only [vle, List.length_cons]
    omega
theorem vle_lt {l : List Int} {k : Nat} (hb : B8 l) (h : l.length ≤ k) : 0 ≤ vle l ∧ vle l < 256 ^ k := by
  have h1 := vle_range hb
  have h2 : (256 : Int) ^ l.length ≤ 256 ^ k := by
    have e : ∀ m : Nat, (256 : Int) ^ m = ((256 ^ m : Nat) : Int) := fun m => (Int.natCast_pow 256 m).symm
    rw [e, e]
    exact Int.ofNat_le.2 (Nat.pow_le_pow_right (by decide) h)
  omega
theorem vle_drop {l : List Int} {i : Nat} (h : i < l.length) : vle (l.drop i) = vle (l.drop (i + 1)) * 256 + l.getD i 0 := by
  rw [List.drop_eq_getElem_cons h, vle, List.getD_eq_getElem?_getD, List.getElem?_eq_getElem h]; rfl
theorem vle_end {l : List Int} : vle (l.drop l.length) = 0 := by rw [List.drop_of_length_le (Nat.le_refl _)]; rfl
theorem vle_nil : vle [] = 0 := rfl
theorem or_addU {a b : Int} (ha : 0 ≤ a) (ha2 : a < 72057594037927936) (hb : 0 ≤ b ∧ b < 256) : binI .or .u64 (a * 256) b = a * 256 + b := by
  obtain ⟨x, rfl⟩ := Int.eq_ofNat_of_zero_le ha
  obtain ⟨y, rfl⟩ := Int.eq_ofNat_of_zero_le hb.1
  have e : x * 256 ||| y = x * 256 + y := by
    have h := Nat.shiftLeft_add_eq_or_of_lt (show y < 2 ^ 8 by omega) x
    rw [Nat.shiftLeft_eq] at h
    exact h.symm
  show IntKind.u64.wrap ((BitVec.ofInt 64 ((x : Int) * 256) ||| BitVec.ofInt 64 (y : Int)).toNat : Int) = _
  have e1 : (BitVec.ofInt 64 ((x : Int) * 256)).toNat = x * 256 := by
    rw [show (x : Int) * 256 = ((x * 256 : Nat) : Int) by omega]; simp; omega
  have e2 : (BitVec.ofInt 64 (y : Int)).toNat = y := by simp; omega
  rw [BitVec.toNat_or, e1, e2, e, u64_conv (by omega)]; omega
theorem fix_quo {n i : Nat} (h : n < 18446744073709551616) : binI .quo .u64 ((n / 256 ^ i : Nat) : Int) 256 = ((n / 256 ^ i : Nat) : Int) / 2 ^ 8 := by
  have h1 : n / 256 ^ i ≤ n := Nat.div_le_self _ _
  generalize n / 256 ^ i = x at *
  show IntKind.u64.wrap ((x : Int).tdiv 256) = (x : Int) / 256
  rw [Int.tdiv_eq_ediv_of_nonneg (by omega)]
  exact u64_conv (by omega)
theorem fixL_succ_s {n w : Nat} : fixL n (w + 1) = fixL n w ++ [((n / 256 ^ w % 256 : Nat) : Int)] := (fixL_succ n w).symm
attribute [irreducible] putN putV fixL vnum ix7 lastOf vle
end Go.Sk
namespace Go.Sk
theorem numR_ex (b : List Int) (most : Int) : ∃ e1 b1 v, NumR b most e1 b1 v := by
  have hix := ix7_le b
  by_cases h6 : 6 ≤ ix7 b
  · exact ⟨_, _, _, .long h6⟩
  · by_cases h : ix7 b = b.length
    · exact ⟨_, _, _, .short h (by omega)⟩
    · have hlt : ix7 b < b.length := by omega
      by_cases hz : 0 < ix7 b ∧ b.getD (ix7 b) 0 = 0
      · exact ⟨_, _, _, .nought hlt (by omega) hz.1 hz.2⟩
      · have hz' : ix7 b = 0 ∨ b.getD (ix7 b) 0 ≠ 0 := by
          by_cases h0 : ix7 b = 0
          · exact .inl h0
          · exact .inr fun h1 => hz ⟨by omega, h1⟩
        by_cases hm : vnum (b.take (ix7 b + 1)) ≤ most ∧ vnum (b.take (ix7 b + 1)) ≤ 1099511627775
        · exact ⟨_, _, _, .ok hlt (by omega) hz' hm⟩
        · exact ⟨_, _, _, .great hlt (by omega) hz' (by omega)⟩
inductive NumS (b : List Int) (e most : Int) : Int → List Int → Int → Prop
  | err (he : e ≠ 0) : NumS b e most e b 0
  | go {e1 : Int} {b1 : List Int} {v : Int} (he : e = 0) (h : NumR b most e1 b1 v) : NumS b e most e1 b1 v
theorem numS_ex (b : List Int) (e most : Int) : ∃ e1 b1 v, NumS b e most e1 b1 v := by
  by_cases he : e = 0
  · obtain ⟨e1, b1, v, h⟩ := numR_ex b most
    exact ⟨_, _, _, .go he h⟩
  · exact ⟨_, _, _, .err he⟩
section
variable {b b1 : List Int} {e most e1 v : Int}
theorem NumR.b8 (h : NumR b most e1 b1 v) (hb : B8 b) : B8 b1 := by
  cases h <;> first | exact hb | exact fun x hx => hb x (List.mem_of_mem_drop hx)
theorem NumS.b8 (h : NumS b e most e1 b1 v) (hb : B8 b) : B8 b1 := by
  cases h with
  | err => exact hb
  | go _ h => exact h.b8 hb
theorem NumR.len (h : NumR b most e1 b1 v) : b1.length ≤ b.length := by
  cases h <;> simp [List.length_drop]
theorem NumS.len (h : NumS b e most e1 b1 v) : b1.length ≤ b.length := by
  cases h with
  | err => exact Nat.le_refl _
  | go _ h => exact h.len
theorem NumR.fail (h : NumR b most e1 b1 v) (he : e1 ≠ 0) : v = 0 := by
  cases h <;> first | rfl | exact absurd rfl he
theorem NumS.fail (h : NumS b e most e1 b1 v) (he : e1 ≠ 0) : v = 0 := by
  cases h with
  | err => rfl
  | go _ h => exact h.fail he
theorem NumR.nat (h : NumR b most e1 b1 v) : 0 ≤ v ∧ v ≤ 1099511627775 := by
  cases h with
  | ok _ _ _ hm => exact ⟨(vnum_range _).1, hm.2⟩
  | _ => exact ⟨Int.le_refl _, by decide⟩
theorem NumS.nat (h : NumS b e most e1 b1 v) : 0 ≤ v ∧ v ≤ 1099511627775 := by
  cases h with
  | err => exact ⟨Int.le_refl _, by decide⟩
  | go _ h => exact h.nat
end
inductive FixS (b : List Int) (e width : Int) : Int → List Int → List Int → Prop
  | err (he : e ≠ 0) : FixS b e width e b []
  | range (he : e = 0) (hw : width < 0 ∨ (0 ≤ width ∧ 8 < width)) : FixS b e width 3 b []
  | short (wd : Nat) (he : e = 0) (hw : width = wd) (h8 : wd ≤ 8) (hk : b.length < wd) : FixS b e width 2 b []
  | ok (wd : Nat) (he : e = 0) (hw : width = wd) (h8 : wd ≤ 8) (hk : wd ≤ b.length) : FixS b e width 0 (b.drop wd) (b.take wd)
theorem fixS_ex (b : List Int) (e width : Int) : ∃ e1 b1 x, FixS b e width e1 b1 x := by
  by_cases he : e = 0
  · rcases (show (width < 0 ∨ (0 ≤ width ∧ 8 < width)) ∨ (0 ≤ width ∧ width ≤ 8) by omega) with h | h
    · exact ⟨_, _, _, .range he h⟩
    · obtain ⟨wd, rfl⟩ := Int.eq_ofNat_of_zero_le h.1
      by_cases hk : wd ≤ b.length
      · exact ⟨_, _, _, .ok wd he rfl (by omega) hk⟩
      · exact ⟨_, _, _, .short wd he rfl (by omega) (by omega)⟩
  · exact ⟨_, _, _, .err he⟩
section
variable {b b1 x : List Int} {e width e1 : Int}
theorem FixS.b8 (h : FixS b e width e1 b1 x) (hb : B8 b) : B8 b1 := by
  cases h <;> first | exact hb | exact fun x hx => hb x (List.mem_of_mem_drop hx)
theorem FixS.len (h : FixS b e width e1 b1 x) : b1.length ≤ b.length := by
  cases h <;> simp [List.length_drop]
end
theorem vnum_cons (c : Int) (r : List Int) : vnum (c :: r) = vnum r * 128 + c % 128 := by rw [vnum]
theorem vnum_nil : vnum [] = 0 := by rw [vnum]
theorem vle_cons (c : Int) (r : List Int) : vle (c :: r) = vle r * 256 + c := by rw [vle]
theorem putN_spec : ∀ (f n : Nat) (rest : List Int), n < 128 ^ (f + 1) → ix7 (putN f n ++ rest) + 1 = (putN f n).length ∧ vnum (putN f n) = n ∧ ((putN f n ++ rest).getD (ix7 (putN f n ++ rest)) 0 ≠ 0 ∨ n = 0) := by
  intro f
  induction f with
  | zero =>
    intro n rest h
    have h7 : n < 128 := by omega
    rw [putN_lt h7]
    have hi : ix7 ([(n : Int)] ++ rest) = 0 := by
      rw [List.singleton_append, ix7_cons, if_pos (by omega)]
    rw [hi, vnum_cons, vnum_nil]
    refine ⟨rfl, by omega, ?_⟩
    simp only [List.singleton_append, List.getD_cons_zero]
    omega
  | succ f ih =>
    intro n rest h
    by_cases h7 : n < 128
    · rw [putN_lt h7]
      have hi : ix7 ([(n : Int)] ++ rest) = 0 := by
        rw [List.singleton_append, ix7_cons, if_pos (by omega)]
      rw [hi, vnum_cons, vnum_nil]
      refine ⟨rfl, by omega, ?_⟩
      simp only [List.singleton_append, List.getD_cons_zero]
      omega
    · obtain ⟨h1, h2, h3⟩ := ih (n / 128) rest (by rw [Nat.pow_succ] at h; exact Nat.div_lt_of_lt_mul (by rw [Nat.mul_comm]; exact h))
      rw [putN_ge h7]
      have hi : ix7 ((((128 + n % 128 : Nat) : Int) :: putN f (n / 128)) ++ rest) = ix7 (putN f (n / 128) ++ rest) + 1 := by
        rw [List.cons_append, ix7_cons, if_neg (by omega)]
      rw [hi, vnum_cons, h2]
      refine ⟨by rw [List.length_cons, h1], by omega, ?_⟩
      simp only [List.cons_append, List.getD_cons_succ]
      rcases h3 with h3 | h3
      · exact .inl h3
      · omega
theorem length_putN' : ∀ (k f n : Nat), n < 128 ^ (k + 1) → (putN f n).length ≤ k + 1
  | 0, f, n, h => by rw [putN_lt (by omega)]; simp
  | k + 1, f, n, h => by
    by_cases h7 : n < 128
    · rw [putN_lt h7]; simp
    · cases f with
      | zero => have := length_putN 0 n; omega
      | succ f =>
        rw [putN_ge h7, List.length_cons]
        have := length_putN' k f (n / 128) (by rw [Nat.pow_succ] at h; exact Nat.div_lt_of_lt_mul (by rw [Nat.mul_comm]; exact h))
        omega
theorem putV_eq (n : Nat) : putV n = putN 6 n := by unfold putV; rfl
theorem length_putV {n : Nat} (h : n ≤ 1099511627775) : 1 ≤ (putV n).length ∧ (putV n).length ≤ 6 := by
  rw [putV_eq]
  have h1 := (putN_spec 6 n [] (by omega)).1
  exact ⟨by omega, length_putN' 5 6 n (by omega)⟩
theorem B8_putV {n : Nat} (h : n ≤ 1099511627775) : B8 (putV n) := by rw [putV_eq]; exact B8_putN 6 n (by omega)
theorem numR_put {n : Nat} {most : Int} (rest : List Int) (h : n ≤ 1099511627775) (hm : (n : Int) ≤ most) : NumR (putV n ++ rest) most 0 rest n := by
  obtain ⟨h1, h2, h3⟩ := putN_spec 6 n rest (by omega)
  have hl := length_putV h
  rw [← putV_eq] at h1 h2 h3
  have ht : (putV n ++ rest).take (ix7 (putV n ++ rest) + 1) = putV n := by rw [h1]; exact List.take_left' rfl
  have hd : (putV n ++ rest).drop (ix7 (putV n ++ rest) + 1) = rest := by rw [h1]; exact List.drop_left' rfl
  have := NumR.ok (b := putV n ++ rest) (most := most) (by rw [List.length_append]; omega) (by omega) ?_ (by rw [ht, h2]; exact ⟨hm, by omega⟩)
  · rwa [hd, ht, h2] at this
  · rcases h3 with h3 | h3
    · exact .inr h3
    · left
      have e : putV n = [0] := by rw [putV_eq, h3, putN_lt (by decide)]; rfl
      rw [e] at h1
      simp only [List.length_singleton] at h1
      rw [e]; omega
theorem putN_can : ∀ (b : List Int) (f : Nat), B8 b → ix7 b < b.length → ix7 b ≤ f → (ix7 b = 0 ∨ b.getD (ix7 b) 0 ≠ 0) → ∃ n : Nat, vnum (b.take (ix7 b + 1)) = n ∧ putN f n = b.take (ix7 b + 1) ∧ (b.getD (ix7 b) 0 ≠ 0 → 0 < n)
  | [], _, _, h, _, _ => by simp at h
  | c :: r, f, hb, h, hf, hz => by
    have hc := hb c List.mem_cons_self
    rw [ix7_cons] at h hf hz ⊢
    by_cases hlt : c < 128
    · rw [if_pos hlt]
      obtain ⟨a, rfl⟩ := Int.eq_ofNat_of_zero_le hc.1
      refine ⟨a, ?_, ?_, ?_⟩
      · simp only [Nat.zero_add, List.take_succ_cons, List.take_zero]
        rw [vnum_cons, vnum_nil]; omega
      · simp only [Nat.zero_add, List.take_succ_cons, List.take_zero]
        exact putN_lt (by omega)
      · simp only [List.getD_cons_zero]; omega
    · rw [if_neg hlt] at h hf hz ⊢
      obtain ⟨g, rfl⟩ : ∃ g, f = g + 1 := ⟨f - 1, by omega⟩
      simp only [List.getD_cons_succ, List.length_cons] at hz h
      have hz' : r.getD (ix7 r) 0 ≠ 0 := by
        rcases hz with hz | hz
        · omega
        · exact hz
      obtain ⟨n, h1, h2, h3⟩ := putN_can r g (fun x hx => hb x (List.mem_cons_of_mem _ hx)) (by omega) (by omega) (.inr hz')
      have hn := h3 hz'
      obtain ⟨a, rfl⟩ := Int.eq_ofNat_of_zero_le hc.1
      refine ⟨n * 128 + a % 128, ?_, ?_, fun _ => by omega⟩
      · rw [List.take_succ_cons, vnum_cons, h1]; omega
      · rw [List.take_succ_cons, ← h2, putN_ge (by omega), show (n * 128 + a % 128) / 128 = n by omega, show 128 + (n * 128 + a % 128) % 128 = a by omega]
theorem NumR.can {b b1 : List Int} {most v : Int} (h : NumR b most 0 b1 v) (hb : B8 b) : ∃ n : Nat, v = n ∧ n ≤ 1099511627775 ∧ putV n = b.take (putV n).length ∧ (putV n).length + b1.length = b.length := by
  cases h with
  | ok h h6 hz hm =>
    obtain ⟨n, h1, h2, _⟩ := putN_can b 6 hb h (by omega) hz
    rw [← putV_eq] at h2
    have hl : (putV n).length = ix7 b + 1 := by rw [h2, List.length_take]; omega
    refine ⟨n, h1, by rw [h1] at hm; omega, by rw [hl, h2], by rw [hl, List.length_drop]; omega⟩
structure PutW (n0 : Nat) (want f cur : Nat) : Prop where
  len : want + (putN f cur).length = (putV n0).length + 1
  lt : cur < 128 ^ f
  pos : 1 ≤ f
  le : want + f ≤ 7
theorem PutW.zero {n : Nat} (h : n ≤ 1099511627775) : PutW n 1 6 n := ⟨by rw [putV_eq]; omega, by omega, by omega, by omega⟩
theorem PutW.succ {n0 want f cur : Nat} (h : PutW n0 want f cur) (hc : ¬ cur < 128) : PutW n0 (want + 1) (f - 1) (cur / 128) := by
  obtain ⟨h1, h2, h3, h4⟩ := h
  obtain ⟨g, rfl⟩ : ∃ g, f = g + 1 := ⟨f - 1, by omega⟩
  rw [putN_ge hc, List.length_cons] at h1
  cases g with
  | zero => omega
  | succ g =>
    refine ⟨?_, ?_, by omega, by omega⟩
    · show want + 1 + (putN (g + 1) (cur / 128)).length = _
      omega
    · show cur / 128 < 128 ^ (g + 1)
      rw [Nat.pow_succ] at h2
      exact Nat.div_lt_of_lt_mul (by rw [Nat.mul_comm]; exact h2)
theorem PutW.end {n0 want f cur : Nat} (h : PutW n0 want f cur) (hc : cur < 128) : (putV n0).length = want ∧ want ≤ 6 := by
  obtain ⟨h1, h2, h3, h4⟩ := h
  rw [putN_lt hc, List.length_singleton] at h1
  omega
def prs (D : List (Int × Int)) : List AV := (D.map fun d => [AV.i .i64 d.1, AV.i .i64 d.2]).flatten
theorem prs_cons (d : Int × Int) (D : List (Int × Int)) : prs (d :: D) = AV.i .i64 d.1 :: AV.i .i64 d.2 :: prs D := rfl
theorem inSL_prs {S : Nat → Prop} : ∀ D : List (Int × Int), AV.inSL S (prs D)
  | [] => by simp [prs, AV.inSL]
  | d :: D => by rw [prs_cons]; simp only [AV.inSL, AV.inS, true_and]; exact inSL_prs D
def flatP (l : List Int) : List Int := (l.map fun x => putV x.toNat).flatten
theorem flatP_nil : flatP [] = [] := rfl
theorem flatP_cons (x : Int) (l : List Int) : flatP (x :: l) = putV x.toNat ++ flatP l := rfl
theorem flatP_append (a b : List Int) : flatP (a ++ b) = flatP a ++ flatP b := by simp [flatP]
theorem flatP_succ {l : List Int} {i : Nat} (h : i < l.length) : flatP (l.take i) ++ putV (l.getD i 0).toNat = flatP (l.take (i + 1)) := by
  rw [List.take_succ_eq_append_getElem h, flatP_append, flatP_cons, flatP_nil, List.append_nil, List.getD_eq_getElem?_getD, List.getElem?_eq_getElem h]; rfl
theorem length_flatP : ∀ l : List Int, (flatP l).length ≤ 7 * l.length
  | [] => by simp [flatP_nil]
  | x :: l => by
    have h1 := length_flatP l
    have h2 : (putV x.toNat).length ≤ 7 := by rw [putV_eq]; exact length_putN 6 _
    rw [flatP_cons, List.length_append, List.length_cons]; omega
def Nums (l : List Int) : Prop := ∀ x ∈ l, 0 ≤ x ∧ x ≤ 1099511627775
theorem Nums.get {l : List Int} (h : Nums l) {i : Nat} (hi : i < l.length) : 0 ≤ l.getD i 0 ∧ l.getD i 0 ≤ 1099511627775 := by
  rw [List.getD_eq_getElem?_getD, List.getElem?_eq_getElem hi]; exact h _ (List.getElem_mem hi)
theorem Nums.succ {l : List Int} {i : Nat} (h : Nums (l.take i)) (hi : i < l.length) (hx : 0 ≤ l.getD i 0 ∧ l.getD i 0 ≤ 1099511627775) : Nums (l.take (i + 1)) := by
  intro x hm
  rw [List.take_succ_eq_append_getElem hi] at hm
  rcases List.mem_append.1 hm with hm | hm
  · exact h x hm
  · rw [List.getD_eq_getElem?_getD, List.getElem?_eq_getElem hi] at hx
    simp only [List.mem_singleton] at hm
    rw [hm]; exact hx
@[simp] theorem inSL_map_app {S : Nat → Prop} {k : IntKind} {l m : List Int} : AV.inSL S (List.map (AV.i k) l ++ List.map (AV.i k) m) := by rw [← List.map_append]; exact inSL_I _
theorem weak_frz {C : Ctx} {N : Nat} {E : List (Nat × AV)} {H H' : List (Nat × Blk)} {t k n sz : Nat} {e : TypeId} {kd : IntKind} {b : List Int} (hE : lk E t = some (.row k)) (hH : lk H k = some (.row e sz n (I kd b))) (hd : DelK H k H') (hb : b.length = n) :
    Weak C ⟨N, E, H⟩ ⟨N, (t, .vs n (I kd b)) :: (t, .sl k 0 n) :: E, H'⟩ :=
  Weak.trans (weak_sl hE hH) (weak_slv (us := I kd b) (by rw [lk_cons, if_pos rfl]) hH hd (by show ((I kd b).drop 0).take _ = _; rw [List.drop_zero, List.take_length]) (by rw [length_I]; omega) (inSL_I _))
attribute [simp] inSL_prs
attribute [irreducible] flatP prs
end Go.Sk
namespace Go.Sk
def lb : List Int → Nat
  | [] => 0
  | c :: r => c.toNat + 256 * lb r
theorem lb_nil : lb [] = 0 := rfl
theorem lb_cons (c : Int) (r : List Int) : lb (c :: r) = c.toNat + 256 * lb r := rfl
theorem lb_append : ∀ a b : List Int, lb (a ++ b) = lb a + 256 ^ a.length * lb b
  | [], b => by simp [lb_nil]
  | c :: a, b => by
    rw [List.cons_append, lb_cons, lb_cons, lb_append a b, List.length_cons, Nat.pow_succ, Nat.mul_add, ← Nat.mul_assoc, Nat.mul_comm 256 (256 ^ a.length)]
    omega
theorem lb_lt : ∀ {l : List Int}, B8 l → lb l < 256 ^ l.length
  | [], _ => by simp [lb_nil]
  | c :: r, h => by
    have h1 := lb_lt (l := r) (fun x hx => h x (List.mem_cons_of_mem _ hx))
    have h0 := h c List.mem_cons_self
    rw [lb_cons, List.length_cons, Nat.pow_succ]
    omega
theorem fixL_nil (n : Nat) : fixL n 0 = [] := by rw [fixL]
theorem fixL_cons (n w : Nat) : fixL n (w + 1) = ((n % 256 : Nat) : Int) :: fixL (n / 256) w := by rw [fixL]
theorem fixL_lb : ∀ {l : List Int}, B8 l → fixL (lb l) l.length = l
  | [], _ => fixL_nil _
  | c :: r, h => by
    have h0 := h c List.mem_cons_self
    rw [List.length_cons, fixL_cons, lb_cons]
    have e1 : (c.toNat + 256 * lb r) / 256 = lb r := by omega
    rw [e1, fixL_lb (l := r) (fun x hx => h x (List.mem_cons_of_mem _ hx))]
    congr 1; omega
theorem fixL_of {l : List Int} {n w : Nat} (hb : B8 l) (hl : l.length = w) (h : lb l = n) : l = fixL n w := by subst hl; subst h; exact (fixL_lb hb).symm
theorem lb_take {l : List Int} {i : Nat} (h : i < l.length) : lb (l.take (i + 1)) = lb (l.take i) + 256 ^ i * (l.getD i 0).toNat := by
  rw [List.take_succ_eq_append_getElem h, lb_append, List.length_take, Nat.min_eq_left (by omega), lb_cons, lb_nil, List.getD_eq_getElem?_getD, List.getElem?_eq_getElem h]; rfl
def w2 (N : Nat) : List Int := [((N % 18446744073709551616 : Nat) : Int), ((N / 18446744073709551616 : Nat) : Int)]
def w3 (N : Nat) : List Int := [((N % 18446744073709551616 : Nat) : Int), ((N / 18446744073709551616 % 18446744073709551616 : Nat) : Int), ((N / 18446744073709551616 / 18446744073709551616 : Nat) : Int)]
structure Dig (ds : List Nat) : Prop where
  len : ds.length = 5
  lt : ∀ d ∈ ds, d < 18446744073709551616
theorem Dig.get {ds : List Nat} (h : Dig ds) (i : Nat) : ds.getD i 0 < 18446744073709551616 := by
  rw [List.getD_eq_getElem?_getD]
  rcases Nat.lt_or_ge i ds.length with hi | hi
  · rw [List.getElem?_eq_getElem hi]; exact h.lt _ (List.getElem_mem hi)
  · rw [List.getElem?_eq_none hi]; decide
theorem Dig.set {ds : List Nat} (h : Dig ds) {i v : Nat} (hv : v < 18446744073709551616) : Dig (ds.set i v) := by
  refine ⟨by rw [List.length_set]; exact h.len, fun d hd => ?_⟩
  rcases List.mem_or_eq_of_mem_set hd with hd | rfl
  · exact h.lt d hd
  · exact hv
theorem Dig.zero : Dig (List.replicate 5 0) := ⟨rfl, by intro d hd; rw [List.eq_of_mem_replicate hd]; decide⟩
theorem Dig.eq {ds : List Nat} (h : Dig ds) : ds = [ds.getD 0 0, ds.getD 1 0, ds.getD 2 0, ds.getD 3 0, ds.getD 4 0] := by
  match ds, h.len with
  | [a, b, c, d, e], _ => rfl
theorem lb_take' (l : List Int) (k : Nat) : lb (l.take (k + 1)) = lb (l.take k) + 256 ^ k * (l.getD k 0).toNat := by
  rcases Nat.lt_or_ge k l.length with h | h
  · exact lb_take h
  · rw [List.take_of_length_le h, List.take_of_length_le (by omega), List.getD_eq_getElem?_getD, List.getElem?_eq_none h]; simp
structure LesR (a b : List Int) (k : Nat) (o : List Int) (bw : Nat) : Prop where
  len : o.length = k
  b8 : B8 o
  le : bw ≤ 1
  eq : lb o + lb (b.take k) = lb (a.take k) + bw * 256 ^ k
theorem LesR.zero (a b : List Int) : LesR a b 0 [] 0 := ⟨rfl, (by intro x hx; cases hx), by decide, by simp [lb_nil]⟩
theorem LesR.succ {a b : List Int} {k : Nat} {o : List Int} {bw n bw1 : Nat} (h : LesR a b k o bw) (hn : n < 256) (h1 : bw1 ≤ 1) (he : n + (b.getD k 0).toNat + bw = (a.getD k 0).toNat + 256 * bw1) : LesR a b (k + 1) (o ++ [(n : Int)]) bw1 := by
  refine ⟨by rw [List.length_append, h.len]; rfl, B8_append h.b8 (by intro x hx; simp only [List.mem_singleton] at hx; subst hx; omega), h1, ?_⟩
  rw [lb_append, lb_take', lb_take', h.len, lb_cons, lb_nil, Int.toNat_natCast, Nat.pow_succ]
  have h2 := h.eq
  have h3 := congrArg (256 ^ k * ·) he
  simp only [Nat.mul_add] at h3
  rw [Nat.mul_zero, Nat.add_zero]
  have e : bw1 * (256 ^ k * 256) = 256 ^ k * (256 * bw1) := by rw [Nat.mul_comm, Nat.mul_assoc]
  rw [e]
  have e2 : bw * 256 ^ k = 256 ^ k * bw := Nat.mul_comm _ _
  rw [e2] at h2
  omega
theorem LesR.end {a b o : List Int} {bw : Nat} (h : LesR a b a.length o bw) (hb : b.length ≤ a.length) (hle : lb b ≤ lb a) : o = fixL (lb a - lb b) a.length := by
  have h1 := h.eq
  rw [List.take_of_length_le hb, List.take_length] at h1
  have h2 := lb_lt h.b8
  rw [h.len] at h2
  have h3 := h.le
  refine fixL_of h.b8 h.len ?_
  rcases (show bw = 0 ∨ bw = 1 by omega) with rfl | rfl <;> omega
def tagM : Nat → Nat → Nat → List Int → Nat
  | 0, _, a, _ => a
  | m + 1, r, a, l => tagM m r ((a + lb (l.take 16 ++ [1])) * r % 1361129467683753853853498429727072845819) (l.drop 16)
def tagV (r : Nat) (l : List Int) : Nat := tagM ((l.length + 15) / 16) r 0 l
structure TagR (r res m a : Nat) (l : List Int) : Prop where
  eq : tagM m r a l = res
  m : m = (l.length + 15) / 16
  lt : a < 1361129467683753853853498429727072845819
theorem TagR.zero (r : Nat) (l : List Int) : TagR r (tagV r l) ((l.length + 15) / 16) 0 l := ⟨rfl, rfl, by decide⟩
theorem TagR.succ {r res m a : Nat} {l : List Int} (h : TagR r res m a l) (hl : 0 < l.length) : TagR r res (m - 1) ((a + lb (l.take 16 ++ [1])) * r % 1361129467683753853853498429727072845819) (l.drop 16) := by
  obtain ⟨h1, h2, h3⟩ := h
  obtain ⟨n, rfl⟩ : ∃ n, m = n + 1 := ⟨m - 1, by omega⟩
  exact ⟨h1, by rw [List.length_drop]; omega, Nat.mod_lt _ (by decide)⟩
theorem TagR.end {r res m a : Nat} {l : List Int} (h : TagR r res m a l) (hl : l.length = 0) : a = res := by
  obtain ⟨h1, h2, h3⟩ := h
  have : m = 0 := by omega
  subst this
  exact h1
attribute [irreducible] lb tagM tagV
end Go.Sk
namespace Go.Sk
open Go.RowKit
section
variable {C : Ctx} {N : Nat} {E : List (Nat × AV)} {H : List (Nat × Blk)} {d : Nat} {ty : TypeId} {pos : String} {af : Array Edge} {g : Option (Nat × Bool)}
end
end Go.Sk
namespace Go.Sk
open Go.RowKit
section
variable {C : Ctx} {N : Nat} {E : List (Nat × AV)} {H : List (Nat × Blk)} {d : Nat} {ty : TypeId} {ps : String} {af : Array Edge} {g : Option (Nat × Bool)}
end
end Go.Sk
namespace Go.Sk
end Go.Sk
namespace Go.Sk
def bst (n : Nat) : Nat := if n % 2 = 1 then (n / 2) ^^^ 2197175160 else n / 2
def bsts : Nat → Nat → Nat
  | 0, n => n
  | k + 1, n => bst (bsts k n)
theorem bsts_succ (k n : Nat) : bsts (k + 1) n = bst (bsts k n) := rfl
theorem bsts_add : ∀ a b n : Nat, bsts (a + b) n = bsts a (bsts b n)
  | 0, b, n => by rw [Nat.zero_add]; rfl
  | a + 1, b, n => by rw [Nat.add_right_comm, bsts_succ, bsts_add a b n]; rfl
theorem xor_two (a b : Nat) : (a ^^^ b) / 2 = a / 2 ^^^ b / 2 := Nat.xor_div_two
theorem xor_par (a b : Nat) : (a ^^^ b) % 2 = (a + b) % 2 := by
  have h := Nat.testBit_xor a b 0
  simp only [Nat.testBit_zero] at h
  have h' : decide ((a ^^^ b) % 2 = 1) = xor (decide (a % 2 = 1)) (decide (b % 2 = 1)) := h
  by_cases hx : (a ^^^ b) % 2 = 1 <;> by_cases ha : a % 2 = 1 <;> by_cases hb : b % 2 = 1 <;> simp only [hx, ha, hb, decide_true, decide_false, Bool.xor_true, Bool.xor_false, Bool.not_true, Bool.not_false] at h' <;> first | omega | cases h'
theorem bst_xor (a b : Nat) : bst (a ^^^ b) = bst a ^^^ bst b := by
  unfold bst
  rw [xor_two, xor_par]
  rcases Nat.mod_two_eq_zero_or_one a with ha | ha <;> rcases Nat.mod_two_eq_zero_or_one b with hb | hb
  · rw [if_neg (by omega), if_neg (by omega), if_neg (by omega)]
  · rw [if_pos (by omega), if_neg (by omega), if_pos (by omega), Nat.xor_assoc]
  · rw [if_pos (by omega), if_pos (by omega), if_neg (by omega), Nat.xor_assoc, Nat.xor_assoc, Nat.xor_comm (b / 2)]
  · rw [if_neg (by omega), if_pos (by omega), if_pos (by omega), Nat.xor_assoc, Nat.xor_comm (b / 2), ← Nat.xor_assoc 2197175160, Nat.xor_self, Nat.zero_xor]
theorem bsts_xor : ∀ k a b : Nat, bsts k (a ^^^ b) = bsts k a ^^^ bsts k b
  | 0, _, _ => rfl
  | k + 1, a, b => by rw [bsts_succ, bsts_xor k a b, bst_xor]; rfl
theorem bst_lt {n : Nat} (h : n < 4294967296) : bst n < 4294967296 := by
  unfold bst
  split
  · exact Nat.xor_lt_two_pow (n := 32) (by omega) (by decide)
  · omega
theorem bsts_lt {n : Nat} (h : n < 4294967296) : ∀ k, bsts k n < 4294967296
  | 0 => h
  | k + 1 => bst_lt (bsts_lt h k)
theorem even_xor {a b c : Nat} (hc : c < 2) : (2 * a) ^^^ (2 * b + c) = 2 * (a ^^^ b) + c := by
  have h1 := xor_two (2 * a) (2 * b + c)
  have h2 := xor_par (2 * a) (2 * b + c)
  have e1 : 2 * a / 2 = a := by omega
  have e2 : (2 * b + c) / 2 = b := by omega
  rw [e1, e2] at h1
  omega
theorem split16 (q r : Nat) (h : r < 16) : (16 * q) ^^^ r = 16 * q + r := by
  have h1 := even_xor (a := 8 * q) (b := r / 2) (c := r % 2) (by omega)
  have h2 := even_xor (a := 4 * q) (b := r / 4) (c := r / 2 % 2) (by omega)
  have h3 := even_xor (a := 2 * q) (b := r / 8) (c := r / 4 % 2) (by omega)
  have h4 := even_xor (a := q) (b := 0) (c := r / 8 % 2) (by omega)
  have e0 : 2 * (r / 2) + r % 2 = r := by omega
  have e1 : 2 * (r / 4) + r / 2 % 2 = r / 2 := by omega
  have e2 : 2 * (r / 8) + r / 4 % 2 = r / 4 := by omega
  have e3 : 2 * 0 + r / 8 % 2 = r / 8 := by omega
  rw [e0] at h1; rw [e1] at h2; rw [e2] at h3; rw [e3, Nat.xor_zero] at h4
  have f1 : 2 * (8 * q) = 16 * q := by omega
  have f2 : 2 * (4 * q) = 8 * q := by omega
  have f3 : 2 * (2 * q) = 4 * q := by omega
  rw [f1] at h1; rw [f2] at h2; rw [f3] at h3
  omega
theorem bst_even (m : Nat) : bst (2 * m) = m := by unfold bst; rw [if_neg (by omega)]; omega
theorem bsts_16 (q : Nat) : bsts 4 (16 * q) = q := by
  show bst (bst (bst (bst (16 * q)))) = q
  rw [show 16 * q = 2 * (8 * q) by omega, bst_even, show 8 * q = 2 * (4 * q) by omega, bst_even, show 4 * q = 2 * (2 * q) by omega, bst_even, bst_even]
def nibT : List Int := [0, 274646895, 549293790, 820201905, 1098587580, 1361435347, 1640403810, 1905808397, 2197175160, 2460548119, 2722870694, 2987750089, 3280807620, 3553878443, 3811616794, 4084100981]
theorem nib_tab : ∀ r : _root_.Fin 16, (nibT.getD r.val 0) = ((bsts 4 r.val : Nat) : Int) := by decide +kernel
theorem length_nibT : nibT.length = 16 := rfl
theorem nib_get {r : Nat} (h : r < 16) : nibT.getD r 0 = ((bsts 4 r : Nat) : Int) := nib_tab ⟨r, h⟩
theorem nib_step (n : Nat) : bsts 4 (n % 16) ^^^ (n / 16) = bsts 4 n := by
  have h := split16 (n / 16) (n % 16) (by omega)
  rw [show 16 * (n / 16) + n % 16 = n by omega] at h
  conv => rhs; rw [← h]
  rw [bsts_xor, bsts_16, Nat.xor_comm]
def crcB (n : Nat) (c : Int) : Nat := bsts 8 (n ^^^ c.toNat)
def crcL (n : Nat) (l : List Int) : Nat := l.foldl crcB n
def crcS (l : List Int) : Nat := crcL 4294967295 l ^^^ 4294967295
theorem crcL_snoc (n : Nat) (l : List Int) (c : Int) : crcL n (l ++ [c]) = crcB (crcL n l) c := by unfold crcL; rw [List.foldl_append]; rfl
theorem crcL_cons (n : Nat) (c : Int) (l : List Int) : crcL n (c :: l) = crcL (crcB n c) l := by unfold crcL; rw [List.foldl_cons]
theorem crcB_lt {n : Nat} {c : Int} (h : n < 4294967296) (hc : 0 ≤ c ∧ c < 256) : crcB n c < 4294967296 := bsts_lt (Nat.xor_lt_two_pow (n := 32) (by omega) (by omega)) 8
theorem crcL_lt : ∀ {l : List Int} {n : Nat}, B8 l → n < 4294967296 → crcL n l < 4294967296
  | [], _, _, h => h
  | c :: l, n, hb, h => by rw [crcL_cons]; exact crcL_lt (fun x hx => hb x (List.mem_cons_of_mem _ hx)) (crcB_lt h (hb c List.mem_cons_self))
theorem crcS_lt {l : List Int} (h : B8 l) : crcS l < 4294967296 := Nat.xor_lt_two_pow (n := 32) (crcL_lt h (by decide)) (by decide)
theorem crc_take {l : List Int} {i n : Nat} (h : i < l.length) : crcB (crcL n (l.take i)) (l.getD i 0) = crcL n (l.take (i + 1)) := by
  rw [List.take_succ_eq_append_getElem h, crcL_snoc, List.getD_eq_getElem?_getD, List.getElem?_eq_getElem h]; rfl
theorem xor_u32 {x y : Nat} (hx : x < 4294967296) (hy : y < 4294967296) : binI .xor .u32 (x : Int) (y : Int) = ((x ^^^ y : Nat) : Int) := by
  have hl : x ^^^ y < 2 ^ 32 := Nat.xor_lt_two_pow hx hy
  show IntKind.u32.wrap ((BitVec.ofInt 32 (x : Int) ^^^ BitVec.ofInt 32 (y : Int)).toNat : Int) = _
  have e1 : (BitVec.ofInt 32 (x : Int)).toNat = x := by simp; omega
  have e2 : (BitVec.ofInt 32 (y : Int)).toNat = y := by simp; omega
  rw [BitVec.toNat_xor, e1, e2, u32_wrap]
  omega
theorem and15_u32 {x : Nat} (hx : x < 4294967296) : binI .and .u32 (x : Int) 15 = ((x % 16 : Nat) : Int) := by
  show IntKind.u32.wrap ((BitVec.ofInt 32 (x : Int) &&& BitVec.ofInt 32 15).toNat : Int) = _
  have e1 : (BitVec.ofInt 32 (x : Int)).toNat = x := by simp; omega
  have e2 : (BitVec.ofInt 32 15).toNat = 15 := by decide
  have e3 : x &&& 15 = x % 16 := Nat.and_two_pow_sub_one_eq_mod x 4
  rw [BitVec.toNat_and, e1, e2, e3, u32_wrap]
  omega
theorem shr4_u32 {x : Nat} : binI .shr .u32 (x : Int) 4 = ((x / 16 : Nat) : Int) := by
  have h := shr_n (k := .u32) (a := (x : Int)) (b := 4) (n := 4) rfl (by decide)
  rw [h]; show (x : Int) / 16 = _; omega
theorem not_u32 {x : Nat} (hx : x < 4294967296) : unI .xor .u32 (x : Int) = ((x ^^^ 4294967295 : Nat) : Int) := by
  have hl : x ^^^ 4294967295 < 2 ^ 32 := Nat.xor_lt_two_pow hx (by decide)
  show IntKind.u32.wrap ((BitVec.ofInt 32 4294967295 ^^^ BitVec.ofInt 32 (x : Int)).toNat : Int) = _
  have e1 : (BitVec.ofInt 32 (x : Int)).toNat = x := by simp; omega
  have e2 : (BitVec.ofInt 32 4294967295).toNat = 4294967295 := by decide
  rw [BitVec.toNat_xor, e1, e2, Nat.xor_comm, u32_wrap]
  omega
theorem crcL_nil (n : Nat) : crcL n [] = n := rfl
theorem crcB_eq (n : Nat) (c : Int) : crcB n c = bsts 4 (bsts 4 (n ^^^ c.toNat)) := bsts_add 4 4 _
theorem bsts_zero (n : Nat) : bsts 0 n = n := rfl
theorem bst_0 {n : Nat} (h : n % 2 = 0) : bst n = n / 2 := by unfold bst; rw [if_neg (by omega)]
theorem bst_1 {n : Nat} (h : n % 2 = 1) : bst n = n / 2 ^^^ 2197175160 := by unfold bst; rw [if_pos h]
theorem nrem_u32 {x : Nat} : binI .rem .u32 (x : Int) 2 = ((x % 2 : Nat) : Int) := by rw [rem_nn (by omega)]; omega
theorem nquo_u32 {x : Nat} (h : x < 4294967296) : binI .quo .u32 (x : Int) 2 = ((x / 2 : Nat) : Int) := by
  show IntKind.u32.wrap ((x : Int).tdiv 2) = _
  rw [Int.tdiv_eq_ediv_of_nonneg (by omega), u32_wrap]
  omega
attribute [irreducible] bst bsts crcB crcL crcS nibT
end Go.Sk
namespace Go.Sk
def recX (k : Int) (id : List Int) (v n : Int) (z : AV) : List AV := .i .i64 k :: (I .u8 id ++ [.i .i64 v, .i .i64 n, z])
def bodyV (b : List Int) : AV := .vs b.length (I .u8 b)
def planX (c w t : Int) (dg : List Int) : List AV := .i .i64 c :: .i .i64 w :: .i .i64 t :: I .u8 dg
@[simp] theorem inS_bodyV {b : List Int} {S : Nat → Prop} : (bodyV b).inS S := inSL_I b
section
variable {k v n : Int} {id : List Int} {z : AV} {t : TypeId} {S : Nat → Prop}
@[simp] theorem inSL_recX : AV.inSL S (recX k id v n z) ↔ z.inS S := by
  unfold recX
  rw [inSL_iff]
  simp only [List.mem_cons, List.mem_append, List.not_mem_nil, or_false]
  constructor
  · intro h; exact h z (.inr (.inr (.inr (.inr rfl))))
  · rintro h x (rfl | hx | rfl | rfl | rfl)
    · simp [AV.inS]
    · exact inSL_iff.1 (inSL_I _) x hx
    · simp [AV.inS]
    · simp [AV.inS]
    · exact h
end
section
variable {c w t : Int} {dg : List Int} {ty : TypeId} {S : Nat → Prop}
@[simp] theorem inSL_planX : AV.inSL S (planX c w t dg) := by unfold planX; simp only [AV.inSL, AV.inS, true_and]; exact inSL_I _
end
section
variable {k v n : Int} {id b : List Int}
theorem length_putV7 (m : Nat) : (putV m).length ≤ 7 := by rw [putV_eq]; exact length_putN 6 m
end
attribute [irreducible] recX planX
end Go.Sk
namespace Go.Sk
theorem fix_all {c : List Int} (h : c.length = 4) : FixS c 0 4 0 [] c := by
  have := FixS.ok (b := c) (e := 0) (width := 4) 4 rfl rfl (by decide) (by omega)
  rwa [List.drop_of_length_le (by omega), List.take_of_length_le (by omega)] at this
theorem FixS.val {c c1 x : List Int} {e e1 : Int} (h : FixS c e 1 e1 c1 x) (hb : B8 c) : 0 ≤ vle x ∧ vle x < 256 := by
  have key : ∀ l : List Int, B8 l → l.length ≤ 1 → 0 ≤ vle l ∧ vle l < 256 := fun l hl h1 => by
    have := vle_lt hl h1
    omega
  cases h with
  | err => exact key [] (by intro x hx; cases hx) (by decide)
  | range => exact key [] (by intro x hx; cases hx) (by decide)
  | short => exact key [] (by intro x hx; cases hx) (by decide)
  | ok wd he hw h8 hk =>
    obtain rfl : wd = 1 := by omega
    exact key _ (fun x hx => hb x (List.mem_of_mem_take hx)) (by rw [List.length_take]; omega)
def idN (X : Nat → List Int) (w i : Nat) : List Int := (List.range i).map (fun j => vle (X j)) ++ List.replicate (w - i) 0
def idP (X : Nat → List Int) (i : Nat) : List Int := idN X 16 i
theorem length_idN (X : Nat → List Int) {w i : Nat} (h : i ≤ w) : (idN X w i).length = w := by simp [idN]; omega
theorem idN_zero (X : Nat → List Int) (w : Nat) : idN X w 0 = List.replicate w 0 := by simp [idN]
theorem idN_set {X : Nat → List Int} {w i : Nat} (h : i < w) : (idN X w i).set i (vle (X i)) = idN X w (i + 1) := by
  unfold idN
  have h1 : ((List.range i).map fun j => vle (X j)).length = i := by simp
  conv => lhs; rw [List.set_append_right _ _ (by omega), h1, Nat.sub_self, show w - i = w - (i + 1) + 1 by omega, List.replicate_succ, List.set_cons_zero]
  rw [List.range_succ, List.map_append, List.append_assoc]; rfl
theorem B8_idN {C : Nat → List Int} {E : Nat → Int} {X : Nat → List Int} {w : Nat} (hF : ∀ i, i < w → FixS (C i) (E i) 1 (E (i + 1)) (C (i + 1)) (X i)) {c0 : List Int} (hch : ∀ i, i ≤ w → B8 (C i) ∧ (C i).length ≤ c0.length) : B8 (idN X w w) := by
  intro x hx
  unfold idN at hx
  rcases List.mem_append.1 hx with hx | hx
  · obtain ⟨j, hj, rfl⟩ := List.mem_map.1 hx
    have hj := List.mem_range.1 hj
    exact (hF j hj).val (hch j (by omega)).1
  · rw [List.eq_of_mem_replicate hx]; decide
theorem chain_ex (w : Nat) : ∀ (c : List Int) (e : Int), ∃ (C : Nat → List Int) (E : Nat → Int) (X : Nat → List Int), C 0 = c ∧ E 0 = e ∧ ∀ i, i < w → FixS (C i) (E i) 1 (E (i + 1)) (C (i + 1)) (X i) := by
  induction w with
  | zero => exact fun c e => ⟨fun _ => c, fun _ => e, fun _ => [], rfl, rfl, fun i h => by omega⟩
  | succ w ih =>
    intro c e
    obtain ⟨C, E, X, h1, h2, h3⟩ := ih c e
    obtain ⟨e', c', x', h4⟩ := fixS_ex (C w) (E w) 1
    refine ⟨fun i => if i ≤ w then C i else c', fun i => if i ≤ w then E i else e', fun i => if i < w then X i else x', by simp [h1], by simp [h2], fun i hi => ?_⟩
    rcases Nat.lt_or_ge i w with hlt | hge
    · simp only [if_pos (show i ≤ w by omega), if_pos (show i + 1 ≤ w by omega), if_pos hlt]
      exact h3 i hlt
    · obtain rfl : i = w := by omega
      simp only [if_pos (Nat.le_refl i), if_neg (show ¬ i + 1 ≤ i by omega), if_neg (Nat.lt_irrefl i)]
      exact h4
theorem FixS.inv {c c1 x : List Int} {e e1 : Int} (h : FixS c e 1 e1 c1 x) (h1 : e1 = 0) : e = 0 ∧ c = vle x :: c1 := by
  cases h with
  | err he => exact absurd h1 he
  | range => exact absurd h1 (by decide)
  | short => exact absurd h1 (by decide)
  | ok wd he hw h8 hk =>
    obtain rfl : wd = 1 := by omega
    refine ⟨he, ?_⟩
    match c, hk with
    | a :: r, _ => simp [vle_cons, vle_nil]
theorem NumS.inv {c c1 : List Int} {e e1 most v : Int} (h : NumS c e most e1 c1 v) (hb : B8 c) (h1 : e1 = 0) : e = 0 ∧ c = putV v.toNat ++ c1 ∧ 0 ≤ v ∧ v ≤ most := by
  cases h with
  | err he => exact absurd h1 he
  | go he hR =>
    subst h1
    have hv : v ≤ most := by cases hR with | ok _ _ _ hm => exact hm.1
    obtain ⟨n, rfl, hn, hp, hl⟩ := hR.can hb
    refine ⟨he, ?_, by omega, hv⟩
    rw [Int.toNat_natCast]
    have : c1 = c.drop (putV n).length := by
      generalize hgv : (n : Int) = vv at hR
      cases hR with
      | ok g1 g2 g3 g4 =>
        have : (c.drop (ix7 c + 1)).length = c.length - (ix7 c + 1) := List.length_drop
        congr 1
        omega
    rw [this]
    conv => lhs; rw [← List.take_append_drop (putV n).length c]
    rw [← hp]
theorem chain_put (l rest : List Int) : ∃ (C : Nat → List Int) (E : Nat → Int) (X : Nat → List Int), C 0 = l ++ rest ∧ E 0 = 0 ∧ C l.length = rest ∧ E l.length = 0 ∧ (∀ j, j < l.length → vle (X j) = l.getD j 0) ∧ ∀ i, i < l.length → FixS (C i) (E i) 1 (E (i + 1)) (C (i + 1)) (X i) := by
  refine ⟨fun i => l.drop i ++ rest, fun _ => 0, fun i => [l.getD i 0], rfl, rfl, by simp, rfl, fun j hj => by simp [vle_cons, vle_nil], fun i hi => ?_⟩
  have h := FixS.ok (b := l.drop i ++ rest) (e := 0) (width := 1) 1 rfl rfl (by decide) (by rw [List.length_append, List.length_drop]; omega)
  rw [List.drop_eq_getElem_cons hi] at h
  have e1 : l.getD i 0 = l[i] := by rw [List.getD_eq_getElem?_getD, List.getElem?_eq_getElem hi]; rfl
  show FixS (l.drop i ++ rest) 0 1 0 (l.drop (i + 1) ++ rest) [l.getD i 0]
  rw [e1, List.drop_eq_getElem_cons hi]
  exact h
theorem idN_of {X : Nat → List Int} {l : List Int} (h : ∀ j, j < l.length → vle (X j) = l.getD j 0) : idN X l.length l.length = l := by
  unfold idN
  rw [Nat.sub_self, List.replicate_zero, List.append_nil]
  refine List.ext_getElem (by simp) fun j h1 h2 => ?_
  rw [List.getElem_map, List.getElem_range, h j h2, List.getD_eq_getElem?_getD, List.getElem?_eq_getElem h2]; rfl
attribute [irreducible] idN idP
end Go.Sk
namespace Go.Sk
theorem putV_pre {a b : Nat} {r r' : List Int} (ha : a ≤ 1099511627775) (hb : b ≤ 1099511627775) (h : putV a ++ r = putV b ++ r') : a = b ∧ r = r' := by
  have h1 := putN_spec 6 a r (by omega)
  have h2 := putN_spec 6 b r' (by omega)
  rw [putV_eq, putV_eq] at h
  rw [h] at h1
  obtain ⟨h3, h4⟩ := List.append_inj h (by omega)
  have e1 := h1.2.1
  have e2 := h2.2.1
  rw [h3] at e1
  exact ⟨by omega, h4⟩
theorem idP_full (Y : Nat → List Int) : idP Y 16 = (List.range 16).map (fun j => vle (Y j)) := by unfold idP idN; simp
theorem idN_full (Y : Nat → List Int) (w : Nat) : idN Y w w = (List.range w).map (fun j => vle (Y j)) := by unfold idN; simp
section
variable {k v n : Int} {id b : List Int}
end
end Go.Sk
namespace Go.Sk
theorem wf_i64L {x : Int} (h : -9223372036854775808 ≤ x ∧ x ≤ 9223372036854775807) : (Lit.int .i64 x).wf = true := by
  simp [Lit.wf, IntKind.min, IntKind.max, IntKind.signed, IntKind.bits]; omega
end Go.Sk
namespace Go.Sk
structure NoteT where
  id : List Int
  nx : Int
  vo : Int
  it : Int
def noteX (id : List Int) (x v i : Int) : List AV := I .u8 id ++ [.i .i64 x, .i .i64 v, .i .i64 i]
def noteO (d : NoteT) : List AV := noteX d.id d.nx d.vo d.it
section
variable {x v i : Int} {id : List Int} {t : TypeId} {S : Nat → Prop}
@[simp] theorem inSL_noteX : AV.inSL S (noteX id x v i) := by
  unfold noteX
  rw [inSL_iff]
  intro y hy
  rcases List.mem_append.1 hy with hy | hy
  · exact inSL_iff.1 (inSL_I _) y hy
  · simp only [List.mem_cons, List.not_mem_nil, or_false] at hy
    rcases hy with rfl | rfl | rfl <;> simp [AV.inS]
theorem one_noteX : (noteX id x v i).all AV.one = true := by
  unfold noteX
  rw [List.all_append]
  have := one_I (k := .u8) (ws := id)
  rw [this]; rfl
theorem flat_noteX : (AV.ag (noteX id x v i)).flat = true := one_noteX
theorem length_noteX (h : id.length = 16) : (noteX id x v i).length = 19 := by unfold noteX; simp [h]
theorem note_get (h : id.length = 16) : (noteX id x v i)[16]? = some (.i .i64 x) ∧ (noteX id x v i)[17]? = some (.i .i64 v) ∧ (noteX id x v i)[18]? = some (.i .i64 i) := by
  unfold noteX
  refine ⟨?_, ?_, ?_⟩ <;> rw [List.getElem?_append_right (by simp [h])] <;> simp [h]
theorem unit_nx (h : id.length = 16) : unit false 1 ((Blk.blk t (noteX id x v i)).cs.drop 16) (.i .i64 x) := unit_get (note_get h).1
theorem unit_nv (h : id.length = 16) : unit false 1 ((Blk.blk t (noteX id x v i)).cs.drop 17) (.i .i64 v) := unit_get (note_get h).2.1
theorem unit_ni (h : id.length = 16) : unit false 1 ((Blk.blk t (noteX id x v i)).cs.drop 18) (.i .i64 i) := unit_get (note_get h).2.2
theorem note_id (h : id.length = 16) : ((noteX id x v i).drop 0).take 16 = I .u8 id := by
  unfold noteX; rw [List.drop_zero]; exact List.take_left' (by simp [h])
theorem unit_nid (h : id.length = 16) : unit true 16 ((Blk.blk t (noteX id x v i)).cs.drop 0) (.ag (I .u8 id)) := by
  refine ⟨?_, ?_⟩
  · show 16 ≤ ((noteX id x v i).drop 0).length
    rw [List.drop_zero, length_noteX h]; decide
  · show AV.ag (I .u8 id) = .ag (((noteX id x v i).drop 0).take 16)
    rw [note_id h]
theorem unit_nid1 {j : Nat} (h : id.length = 16) (hj : j < 16) : unit false 1 ((Blk.blk t (noteX id x v i)).cs.drop (0 + j)) (.i .u8 (id.getD j 0)) := by
  refine unit_get ?_
  show (noteX id x v i)[0 + j]? = _
  unfold noteX
  rw [Nat.zero_add, List.getElem?_append_left (by simp [h]; omega)]
  simp [List.getD_eq_getElem?_getD, h, hj]
theorem unit_nall (h : id.length = 16) : unit true 19 ((Blk.blk t (noteX id x v i)).cs.drop 0) (.ag (noteX id x v i)) := by
  refine ⟨by show 19 ≤ (noteX id x v i).length; rw [length_noteX h]; decide, ?_⟩
  show _ = AV.ag ((noteX id x v i).take 19)
  rw [List.take_of_length_le (by rw [length_noteX h]; decide)]
theorem put_nid {j : Nat} {c : Int} (h : j < id.length) : (Blk.blk t (noteX id x v i)).put (0 + j) [.i .u8 c] = .blk t (noteX (id.set j c) x v i) := by
  have h1 := over_I (k := .u8) (ws := id) (m := j) (v := c) h
  show Blk.blk t _ = _
  congr 1
  unfold noteX
  rw [← h1]
  unfold over
  rw [Nat.zero_add, List.take_append_of_le_length (by simp; omega), List.drop_append_of_le_length (by simp; omega)]
  simp
theorem put_nx {y : Int} (h : id.length = 16) : (Blk.blk t (noteX id x v i)).put 16 [.i .i64 y] = .blk t (noteX id y v i) := by
  have e1 : (I .u8 id).take 16 = I .u8 id := List.take_of_length_le (by simp [h])
  have e2 : (I .u8 id).drop 17 = [] := List.drop_of_length_le (by simp [h])
  simp [Blk.put, over, noteX, List.take_append, List.drop_append, h, e1, e2]
theorem put_nv {y : Int} (h : id.length = 16) : (Blk.blk t (noteX id x v i)).put 17 [.i .i64 y] = .blk t (noteX id x y i) := by
  have e1 : (I .u8 id).take 17 = I .u8 id := List.take_of_length_le (by simp [h])
  have e2 : (I .u8 id).drop 18 = [] := List.drop_of_length_le (by simp [h])
  simp [Blk.put, over, noteX, List.take_append, List.drop_append, h, e1, e2]
theorem put_ni {y : Int} (h : id.length = 16) : (Blk.blk t (noteX id x v i)).put 18 [.i .i64 y] = .blk t (noteX id x v y) := by
  have e1 : (I .u8 id).take 18 = I .u8 id := List.take_of_length_le (by simp [h])
  have e2 : (I .u8 id).drop 19 = [] := List.drop_of_length_le (by simp [h])
  simp [Blk.put, over, noteX, List.take_append, List.drop_append, h, e1, e2]
theorem put_nall {x' v' i' : Int} {id' : List Int} (h : id.length = 16) (h' : id'.length = 16) : (Blk.blk t (noteX id x v i)).put 0 (AV.ag (noteX id' x' v' i')).cells = .blk t (noteX id' x' v' i') :=
  put_all (by rw [length_noteX h]; exact (length_noteX h').symm)
theorem ren_noteB {τ : Nat → Nat} : (Blk.blk t (noteX id x v i)).ren τ = .blk t (noteX id x v i) := Blk.ren_free (show Blk.inS (fun _ => False) (Blk.blk t (noteX id x v i)) from inSL_noteX) τ
theorem fill_note {place : Nat → Option (Nat × Nat)} (h0 : place 0 = some (0, 16)) (h1 : place 1 = some (16, 1)) (h2 : place 2 = some (17, 1)) (h3 : place 3 = some (18, 1)) (hid : id.length = 16) :
    fillAV place (I .u8 (List.replicate 16 0) ++ [.i .i64 0, .i .i64 0, .i .i64 0]) [(0, .ag (I .u8 id)), (1, .i .i64 x), (2, .i .i64 v), (3, .i .i64 i)] = some (I .u8 id ++ [.i .i64 x, .i .i64 v, .i .i64 i]) := by
  match id, hid with
  | [c0, c1, c2, c3, c4, c5, c6, c7, c8, c9, c10, c11, c12, c13, c14, c15], _ =>
    simp [fillAV, h0, h1, h2, h3, AV.cells, AV.flat, AV.one, List.replicate]
end
def RightN (x v i : Int) : Prop := 0 ≤ x ∧ x ≤ 1099511627775 ∧ 0 ≤ v ∧ v ≤ 63 ∧ 0 ≤ i ∧ i ≤ 1099511627775
def nE (id : List Int) (x v i : Int) : List Int := id ++ putV x.toNat ++ putV v.toNat ++ putV i.toNat
def nL (id : List Int) (x v i : Int) : List Int := nE id x v i ++ fixL (crcS (nE id x v i)) 4
def nB (id : List Int) (x v i : Int) : List Int := putV (nL id x v i).length ++ nL id x v i
def nBd (d : NoteT) : List Int := nB d.id d.nx d.vo d.it
def NOK (d : NoteT) : Prop := d.id.length = 16 ∧ B8 d.id ∧ RightN d.nx d.vo d.it
def flatB (D : List NoteT) : List Int := (D.map nBd).flatten
section
variable {x v i : Int} {id : List Int}
theorem length_nE : (nE id x v i).length = id.length + (putV x.toNat).length + (putV v.toNat).length + (putV i.toNat).length := by unfold nE; simp only [List.length_append]
theorem length_nL : (nL id x v i).length = (nE id x v i).length + 4 := by unfold nL; rw [List.length_append, length_fixL]
theorem nL_le (h : id.length = 16) : (nL id x v i).length ≤ 41 := by
  have := length_putV7 x.toNat; have := length_putV7 v.toNat; have := length_putV7 i.toNat
  rw [length_nL, length_nE]; omega
theorem nL_le64 (h : id.length = 16) (hR : RightN x v i) : (nL id x v i).length ≤ 42 ∧ 20 ≤ (nL id x v i).length := by
  have := nL_le (x := x) (v := v) (i := i) h
  rw [length_nL, length_nE] at *; omega
theorem B8_nE (h8 : B8 id) (hR : RightN x v i) : B8 (nE id x v i) := by
  obtain ⟨g1, g2, g3, g4, g5, g6⟩ := hR
  unfold nE
  exact B8_append (B8_append (B8_append h8 (B8_putV (by omega))) (B8_putV (by omega))) (B8_putV (by omega))
theorem B8_nL (h8 : B8 id) (hR : RightN x v i) : B8 (nL id x v i) := B8_append (B8_nE h8 hR) (B8_fixL _ _)
theorem length_nB (h : id.length = 16) : (nB id x v i).length = 1 + (nL id x v i).length := by
  have := nL_le (x := x) (v := v) (i := i) h
  unfold nB
  rw [List.length_append, putV_eq, putN_lt (by omega)]; rfl
theorem B8_nB (h : id.length = 16) (h8 : B8 id) (hR : RightN x v i) : B8 (nB id x v i) := by
  have := nL_le (x := x) (v := v) (i := i) h
  exact B8_append (B8_putV (by omega)) (B8_nL h8 hR)
end
theorem nL_inj {x v i x' v' i' : Int} {id id' : List Int} (h : id.length = 16) (h' : id'.length = 16) (hR : RightN x v i) (hR' : RightN x' v' i') (e : nL id x v i = nL id' x' v' i') : id = id' ∧ x = x' ∧ v = v' ∧ i = i' := by
  obtain ⟨g1, g2, g3, g4, g5, g6⟩ := hR
  obtain ⟨f1, f2, f3, f4, f5, f6⟩ := hR'
  have h1 : nE id x v i = nE id' x' v' i' := by
    unfold nL at e
    have := congrArg List.length e
    simp only [List.length_append, length_fixL] at this
    exact (List.append_inj e (by omega)).1
  unfold nE at h1
  simp only [List.append_assoc] at h1
  obtain ⟨rfl, h2⟩ := List.append_inj h1 (by omega)
  obtain ⟨h3, h4⟩ := putV_pre (by omega) (by omega) h2
  obtain ⟨h5, h6⟩ := putV_pre (by omega) (by omega) h4
  have h7 := putV_pre (r := []) (r' := []) (a := i.toNat) (b := i'.toNat) (by omega) (by omega) (by rw [h6])
  exact ⟨rfl, by omega, by omega, by omega⟩
theorem nB_pre {d d' : NoteT} {r r' : List Int} (h : NOK d) (h' : NOK d') (e : nBd d ++ r = nBd d' ++ r') : d = d' ∧ r = r' := by
  obtain ⟨h1, h2, h3⟩ := h
  obtain ⟨k1, k2, k3⟩ := h'
  have l1 := nL_le (x := d.nx) (v := d.vo) (i := d.it) h1
  have l2 := nL_le (x := d'.nx) (v := d'.vo) (i := d'.it) k1
  unfold nBd nB at e
  simp only [List.append_assoc] at e
  obtain ⟨e1, e2⟩ := putV_pre (by omega) (by omega) e
  obtain ⟨e3, e4⟩ := List.append_inj e2 e1
  obtain ⟨e5, e6, e7, e8⟩ := nL_inj h1 k1 h3 k3 e3
  refine ⟨?_, e4⟩
  cases d; cases d'; simp_all
theorem flatB_nil : flatB [] = [] := rfl
theorem flatB_cons (d : NoteT) (D : List NoteT) : flatB (d :: D) = nBd d ++ flatB D := rfl
theorem flatB_append (D D' : List NoteT) : flatB (D ++ D') = flatB D ++ flatB D' := by simp [flatB]
def NoN (b : List Int) : Prop := ∀ d r, NOK d → b ≠ nBd d ++ r
theorem nBd_pos {d : NoteT} (h : NOK d) : 0 < (nBd d).length := by unfold nBd; rw [length_nB h.1]; omega
theorem scan_ex : ∀ (n : Nat) (b : List Int), b.length ≤ n → ∃ (D : List NoteT) (rest : List Int), (∀ d ∈ D, NOK d) ∧ b = flatB D ++ rest ∧ NoN rest
  | n, b, hn => by
    by_cases h : ∃ d r, NOK d ∧ b = nBd d ++ r
    · obtain ⟨d, r, hd, rfl⟩ := h
      have hp := nBd_pos hd
      match n, hn with
      | 0, hn => rw [List.length_append] at hn; omega
      | n + 1, hn =>
        obtain ⟨D, rest, h1, rfl, h3⟩ := scan_ex n r (by rw [List.length_append] at hn; omega)
        refine ⟨d :: D, rest, fun e he => ?_, by rw [flatB_cons, List.append_assoc], h3⟩
        rcases List.mem_cons.1 he with rfl | he
        · exact hd
        · exact h1 e he
    · exact ⟨[], b, by simp, rfl, fun d r hd e => h ⟨d, r, hd, e⟩⟩
theorem NoN_nil : NoN [] := fun d r hd e => by
  have := nBd_pos hd
  have h2 := congrArg List.length e
  rw [List.length_append] at h2
  simp at h2; omega
theorem NoN_part {d : NoteT} {p q : List Int} (hd : NOK d) (h : nBd d = p ++ q) (hq : q ≠ []) : NoN p := fun e r he hp => by
  have h1 : nBd e ++ (r ++ q) = nBd d ++ [] := by rw [List.append_nil, h, hp, List.append_assoc]
  have := (nB_pre he hd h1).2
  exact hq (List.append_eq_nil_iff.1 this).2
theorem B8_flatB {D : List NoteT} (h : ∀ d ∈ D, NOK d) : B8 (flatB D) := by
  intro x hx
  unfold flatB at hx
  obtain ⟨l, hl, hx⟩ := List.mem_flatten.1 hx
  obtain ⟨d, hd, rfl⟩ := List.mem_map.1 hl
  have hk := h d hd
  exact B8_nB hk.1 hk.2.1 hk.2.2 x hx
theorem flat_ge : ∀ {D : List NoteT}, (∀ d ∈ D, NOK d) → D.length ≤ (flatB D).length
  | [], _ => Nat.le_refl _
  | d :: D, h => by
    have h1 := flat_ge (D := D) (fun e he => h e (List.mem_cons_of_mem _ he))
    have h2 := nBd_pos (h d List.mem_cons_self)
    rw [flatB_cons, List.length_append, List.length_cons]; omega
theorem flatB_drop {D : List NoteT} {i : Nat} (h : i < D.length) : flatB (D.drop i) = nBd D[i] ++ flatB (D.drop (i + 1)) := by
  rw [List.drop_eq_getElem_cons h]; rfl
theorem flatB_take {D : List NoteT} {i : Nat} (h : i < D.length) : flatB (D.take i) ++ nBd D[i] = flatB (D.take (i + 1)) := by
  rw [List.take_succ_eq_append_getElem h, flatB_append]; simp [flatB]
theorem flat_mono {D : List NoteT} {a b : Nat} (h : a ≤ b) : (flatB (D.take a)).length ≤ (flatB (D.take b)).length := by
  have e : D.take a = (D.take b).take a := by rw [List.take_take, Nat.min_eq_left h]
  rw [e]
  conv => rhs; rw [← List.take_append_drop a (D.take b), flatB_append, List.length_append]
  omega
theorem cut_facts {D : List NoteT} {c m : Nat} (hD : ∀ d ∈ D, NOK d) (hc : c ≤ (flatB D).length) (hm : m ≤ D.length) (h1 : (flatB (D.take m)).length ≤ c) (h2 : m < D.length → c < (flatB (D.take (m + 1))).length) :
    ∃ part, (flatB D).take c = flatB (D.take m) ++ part ∧ NoN part ∧ B8 part := by
  have e : flatB D = flatB (D.take m) ++ flatB (D.drop m) := by rw [← flatB_append, List.take_append_drop]
  have e2 : (flatB D).take c = flatB (D.take m) ++ (flatB (D.drop m)).take (c - (flatB (D.take m)).length) := by rw [e, List.take_append, List.take_of_length_le h1]
  refine ⟨_, e2, ?_, fun x hx => B8_flatB (fun d hd => hD d (List.mem_of_mem_drop hd)) x (List.mem_of_mem_take hx)⟩
  rcases Nat.lt_or_ge m D.length with h | h
  · rw [flatB_drop h]
    have h3 := h2 h
    rw [← flatB_take h, List.length_append] at h3
    rw [List.take_append_of_le_length (by omega)]
    refine NoN_part (hD _ (List.getElem_mem h)) (List.take_append_drop _ _).symm fun he => ?_
    have := congrArg List.length he
    rw [List.length_drop] at this
    simp at this; omega
  · rw [List.drop_of_length_le h, flatB_nil, List.take_nil]
    exact NoN_nil
def nts (D : List NoteT) : List AV := (D.map noteO).flatten
def Ids (D : List NoteT) : Prop := ∀ d ∈ D, d.id.length = 16 ∧ B8 d.id
theorem Ids.of {D : List NoteT} (h : ∀ d ∈ D, NOK d) : Ids D := fun d hd => ⟨(h d hd).1, (h d hd).2.1⟩
theorem nts_cons (d : NoteT) (D : List NoteT) : nts (d :: D) = noteO d ++ nts D := rfl
theorem nts_append (D D' : List NoteT) : nts (D ++ D') = nts D ++ nts D' := by simp [nts]
theorem length_nts : ∀ {D : List NoteT}, Ids D → (nts D).length = D.length * 19
  | [], _ => rfl
  | d :: D, h => by
    rw [nts_cons, List.length_append, length_nts (fun e he => h e (List.mem_cons_of_mem _ he)), List.length_cons]
    unfold noteO
    rw [length_noteX (h d List.mem_cons_self).1]; omega
theorem inSL_nts {S : Nat → Prop} : ∀ D : List NoteT, AV.inSL S (nts D)
  | [] => by simp [nts, AV.inSL]
  | d :: D => by
    rw [nts_cons, inSL_iff]
    intro y hy
    rcases List.mem_append.1 hy with hy | hy
    · exact inSL_iff.1 (inSL_noteX (S := S)) y hy
    · exact inSL_iff.1 (inSL_nts D) y hy
attribute [simp] inSL_nts
theorem nts_at : ∀ {D : List NoteT} {j : Nat} (_ : Ids D) (hj : j < D.length), ((nts D).drop (j * 19)).take 19 = noteO D[j]
  | d :: D, 0, h, _ => by
    rw [nts_cons, Nat.zero_mul, List.drop_zero]
    exact List.take_left' (length_noteX (h d List.mem_cons_self).1)
  | d :: D, j + 1, h, hj => by
    have hl : (noteO d).length = 19 := length_noteX (h d List.mem_cons_self).1
    rw [nts_cons, show (j + 1) * 19 = 19 + j * 19 by omega, ← List.drop_drop, List.drop_left' hl]
    exact nts_at (fun e he => h e (List.mem_cons_of_mem _ he)) (by simpa using hj)
theorem unit_nts {D : List NoteT} {j : Nat} (h : Ids D) (hj : j < D.length) : unit true 19 ((nts D).drop (j * 19)) (.ag (noteO D[j])) := by
  refine ⟨?_, by rw [nts_at h hj]; simp⟩
  rw [List.length_drop, length_nts h]
  omega
theorem nts_take {D : List NoteT} {i : Nat} (h : i < D.length) : nts (D.take i) ++ noteO D[i] = nts (D.take (i + 1)) := by
  rw [List.take_succ_eq_append_getElem h, nts_append]; simp [nts]
theorem one_noteO (d : NoteT) : (noteO d).all AV.one = true := one_noteX
theorem arg_notes {v : AV} (h : (Sh.sl 19 (.st [.nums 16 .u8, .int .i64, .int .i64, .int .i64])).arg v) : ∃ D : List NoteT, v = .vs D.length (nts D) ∧ D.length ≤ Go.maxLen ∧ Ids D := by
  obtain ⟨n, l, h1, h2, h3, h4⟩ := h
  cases h1
  suffices hs : ∃ D : List NoteT, l.flatten = nts D ∧ D.length = l.length ∧ Ids D by
    obtain ⟨D, g1, g2, g3⟩ := hs
    exact ⟨D, by rw [g1, g2, h2], by omega, g3⟩
  clear h2 h3
  induction l with
  | nil => exact ⟨[], rfl, rfl, fun d hd => by cases hd⟩
  | cons c l ih =>
    obtain ⟨D, g1, g2, g3⟩ := ih fun c hc => h4 c (List.mem_cons_of_mem _ hc)
    obtain ⟨_, a1, b1, rfl, ⟨id, rfl, hid, wid⟩, a2, b2, rfl, ⟨x, rfl, _⟩, a3, b3, rfl, ⟨y, rfl, _⟩, a4, b4, rfl, ⟨z, rfl, _⟩, rfl⟩ := h4 c List.mem_cons_self
    refine ⟨⟨id, x, y, z⟩ :: D, ?_, by simp [g2], fun d hd => ?_⟩
    · rw [List.flatten_cons, g1, nts_cons]; unfold noteO noteX; simp
    · rcases List.mem_cons.1 hd with rfl | hd
      · exact ⟨hid, b8_wf wid⟩
      · exact g3 d hd
theorem arg_note {v : AV} (h : (Sh.st [.nums 16 .u8, .int .i64, .int .i64, .int .i64]).arg v) : ∃ (id : List Int) (x vo i : Int), v = .ag (noteX id x vo i) ∧ id.length = 16 ∧ B8 id ∧ ((Lit.int .i64 x).wf = true ∧ (Lit.int .i64 vo).wf = true ∧ (Lit.int .i64 i).wf = true) := by
  obtain ⟨xs, rfl, a1, b1, rfl, ⟨id, rfl, hid, wid⟩, a2, b2, rfl, ⟨x, rfl, w1⟩, a3, b3, rfl, ⟨y, rfl, w2⟩, a4, b4, rfl, ⟨z, rfl, w3⟩, rfl⟩ := h
  exact ⟨id, x, y, z, by unfold noteX; simp, hid, b8_wf wid, w1, w2, w3⟩
theorem note_has {x v i : Int} {id : List Int} (hd : id.length = 16) (bd : B8 id) (h : (Lit.int .i64 x).wf = true ∧ (Lit.int .i64 v).wf = true ∧ (Lit.int .i64 i).wf = true) :
    (Sh.st [.nums 16 .u8, .int .i64, .int .i64, .int .i64]).has (noteX id x v i) := by
  unfold noteX
  exact ⟨I .u8 id, _, rfl, ⟨id, rfl, hd, wf_u8 bd⟩, [.i .i64 x], _, rfl, ⟨x, rfl, h.1⟩, [.i .i64 v], _, rfl, ⟨v, rfl, h.2.1⟩, [.i .i64 i], [], rfl, ⟨i, rfl, h.2.2⟩, rfl⟩
theorem right_wf {x v i : Int} (h : RightN x v i) : (Lit.int .i64 x).wf = true ∧ (Lit.int .i64 v).wf = true ∧ (Lit.int .i64 i).wf = true := by
  obtain ⟨g1, g2, g3, g4, g5, g6⟩ := h
  exact ⟨wf_i64L (by omega), wf_i64L (by omega), wf_i64L (by omega)⟩
theorem note_hasR {x v i : Int} {id : List Int} (hd : id.length = 16) (bd : B8 id) (h : RightN x v i) : (Sh.st [.nums 16 .u8, .int .i64, .int .i64, .int .i64]).has (noteX id x v i) := note_has hd bd (right_wf h)
def lastS (id : List Int) (a : Option NoteT) (D : List NoteT) : Option NoteT := D.foldl (fun a d => if d.id = id then some d else a) a
def zNote : NoteT := ⟨List.replicate 16 0, 0, 0, 0⟩
theorem lastS_snoc (id : List Int) (a : Option NoteT) (D : List NoteT) (d : NoteT) : lastS id a (D ++ [d]) = if d.id = id then some d else lastS id a D := by unfold lastS; rw [List.foldl_append]; rfl
inductive BytesS (b : List Int) (e most : Int) : Int → List Int → List Int → Prop
  | err {e1 v : Int} {b1 : List Int} (h : NumS b e most e1 b1 v) (he : e1 ≠ 0) : BytesS b e most e1 b1 []
  | short {v : Int} {b1 : List Int} (h : NumS b e most 0 b1 v) (k : Nat) (hk : v = k) (hs : b1.length < k) : BytesS b e most 2 b1 []
  | ok {v : Int} {b1 : List Int} (h : NumS b e most 0 b1 v) (k : Nat) (hk : v = k) (hs : k ≤ b1.length) : BytesS b e most 0 (b1.drop k) (b1.take k)
theorem bytesS_ex (b : List Int) (e most : Int) : ∃ e1 b1 x, BytesS b e most e1 b1 x := by
  obtain ⟨e1, b1, v, h⟩ := numS_ex b e most
  by_cases he : e1 = 0
  · subst he
    obtain ⟨k, hk⟩ := Int.eq_ofNat_of_zero_le h.nat.1
    rcases Nat.lt_or_ge b1.length k with hs | hs
    · exact ⟨_, _, _, .short h k hk hs⟩
    · exact ⟨_, _, _, .ok h k hk hs⟩
  · exact ⟨_, _, _, .err h he⟩
section
variable {b b1 x : List Int} {e most e1 : Int}
theorem BytesS.facts (h : BytesS b e most e1 b1 x) (hb : B8 b) : B8 b1 ∧ b1.length ≤ b.length ∧ B8 x ∧ x.length ≤ b.length := by
  cases h with
  | err h _ => exact ⟨h.b8 hb, h.len, (by intro x hx; cases hx), Nat.zero_le _⟩
  | short h _ _ _ => exact ⟨h.b8 hb, h.len, (by intro x hx; cases hx), Nat.zero_le _⟩
  | ok h k hk hs =>
    have h1 := h.b8 hb
    have h2 := h.len
    exact ⟨fun x hx => h1 x (List.mem_of_mem_drop hx), by rw [List.length_drop]; omega, fun x hx => h1 x (List.mem_of_mem_take hx), by rw [List.length_take]; omega⟩
theorem BytesS.inv (h : BytesS b e most e1 b1 x) (hb : B8 b) (h1 : e1 = 0) : e = 0 ∧ b = putV x.length ++ x ++ b1 := by
  cases h with
  | err h he => exact absurd h1 he
  | short h _ _ _ => exact absurd h1 (by decide)
  | ok h k hk hs =>
    obtain ⟨g1, g2, g3, g4⟩ := h.inv hb rfl
    refine ⟨g1, ?_⟩
    rw [g2, List.length_take, Nat.min_eq_left hs, hk, Int.toNat_natCast, List.append_assoc, List.take_append_drop]
end
theorem nums_ex (w : Nat) (m : Int) : ∀ (c : List Int) (e : Int), ∃ (C : Nat → List Int) (E V : Nat → Int), C 0 = c ∧ E 0 = e ∧ ∀ i, i < w → NumS (C i) (E i) m (E (i + 1)) (C (i + 1)) (V i) := by
  induction w with
  | zero => exact fun c e => ⟨fun _ => c, fun _ => e, fun _ => 0, rfl, rfl, fun i h => by omega⟩
  | succ w ih =>
    intro c e
    obtain ⟨C, E, V, h1, h2, h3⟩ := ih c e
    obtain ⟨e', c', v', h4⟩ := numS_ex (C w) (E w) m
    refine ⟨fun i => if i ≤ w then C i else c', fun i => if i ≤ w then E i else e', fun i => if i < w then V i else v', by simp [h1], by simp [h2], fun i hi => ?_⟩
    rcases Nat.lt_or_ge i w with hlt | hge
    · simp only [if_pos (show i ≤ w by omega), if_pos (show i + 1 ≤ w by omega), if_pos hlt]
      exact h3 i hlt
    · obtain rfl : i = w := by omega
      simp only [if_pos (Nat.le_refl i), if_neg (show ¬ i + 1 ≤ i by omega), if_neg (Nat.lt_irrefl i)]
      exact h4
theorem nums_ok {C : Nat → List Int} {E V : Nat → Int} {w : Nat} {m : Int} (hN : ∀ i, i < w → NumS (C i) (E i) m (E (i + 1)) (C (i + 1)) (V i)) (hb : B8 (C 0)) : ∀ i, i ≤ w → B8 (C i) ∧ (C i).length ≤ (C 0).length
  | 0, _ => ⟨hb, Nat.le_refl _⟩
  | i + 1, hi => by
    obtain ⟨g1, g2⟩ := nums_ok hN hb i (by omega)
    have hf := hN i (by omega)
    exact ⟨hf.b8 g1, Nat.le_trans hf.len g2⟩
def pV (V : Nat → Int) (j k : Nat) : Int := if k < j then V k else 0
theorem pV_zero (V : Nat → Int) (k : Nat) : pV V 0 k = 0 := by simp [pV]
theorem nE_flat (id : List Int) (x v i : Int) : nE id x v i = id ++ flatP [x, v, i] := by
  unfold nE; simp [flatP]
theorem note_data {id : List Int} {x v i : Int} {r : List Int} (hid : id.length = 16) (h8 : B8 id) (hR : RightN x v i) :
    ∃ (C : Nat → List Int) (E : Nat → Int) (Y : Nat → List Int) (D : Nat → List Int) (G V : Nat → Int) (y : List Int), BytesS (nB id x v i ++ r) 0 64 0 r (C 0) ∧ E 0 = 0 ∧ (∀ j, j < 16 → FixS (C j) (E j) 1 (E (j + 1)) (C (j + 1)) (Y j)) ∧ D 0 = C 16 ∧ G 0 = E 16 ∧
      (∀ j, j < 3 → NumS (D j) (G j) 1099511627775 (G (j + 1)) (D (j + 1)) (V j)) ∧ FixS (D 3) (G 3) 4 0 [] y ∧ idP Y 16 = id ∧ V 0 = x ∧ V 1 = v ∧ V 2 = i ∧ C 0 = nL id x v i := by
  have hl := nL_le (x := x) (v := v) (i := i) hid
  obtain ⟨g1, g2, g3, g4, g5, g6⟩ := hR
  obtain ⟨C, E, Y, h1, h2, h3, h4, h5, h6⟩ := chain_put id (putV x.toNat ++ (putV v.toNat ++ (putV i.toNat ++ fixL (crcS (nE id x v i)) 4)))
  rw [hid] at h3 h4 h5 h6
  have hC : C 0 = nL id x v i := by
    rw [h1]; unfold nL
    generalize fixL (crcS (nE id x v i)) 4 = F
    unfold nE; simp
  have num : ∀ (z : Int) (q : List Int), 0 ≤ z → z ≤ 1099511627775 → NumS (putV z.toNat ++ q) 0 1099511627775 0 q z := fun z q a b => by
    have h := numR_put (n := z.toNat) (most := 1099511627775) q (by omega) (by omega)
    rw [show ((z.toNat : Nat) : Int) = z by omega] at h
    exact .go rfl h
  let F := fixL (crcS (nE id x v i)) 4
  refine ⟨C, E, Y, fun j => match j with | 0 => C 16 | 1 => putV v.toNat ++ (putV i.toNat ++ F) | 2 => putV i.toNat ++ F | _ => F, fun _ => 0, fun j => match j with | 0 => x | 1 => v | _ => i, F, ?_, h2, h6, rfl, h4.symm, ?_, ?_, ?_, rfl, rfl, rfl, hC⟩
  · have h := numR_put (n := (nL id x v i).length) (most := 64) (nL id x v i ++ r) (by omega) (by omega)
    have hb := BytesS.ok (b := nB id x v i ++ r) (e := 0) (most := 64) (v := ((nL id x v i).length : Int)) (b1 := nL id x v i ++ r) (by unfold nB; rw [List.append_assoc]; exact .go rfl h) (nL id x v i).length rfl (by simp)
    rw [List.drop_left, List.take_left] at hb
    rw [hC]
    exact hb
  · intro j hj
    match j, hj with
    | 0, _ => show NumS (C 16) 0 _ 0 _ x; rw [h3]; exact num x _ g1 g2
    | 1, _ => exact num v _ g3 (by omega)
    | 2, _ => exact num i _ g5 g6
  · exact fix_all (length_fixL _ _)
  · rw [idP_full]
    have := idN_of (X := Y) (l := id) (by rw [hid]; exact h5)
    rw [hid, idN_full] at this
    exact this
def lastN (id : List Int) (D : List NoteT) : NoteT := (lastS id none D).getD zNote
def lastB (id : List Int) (D : List NoteT) : Bool := (lastS id none D).isSome
theorem lastN_nil (id : List Int) : lastN id [] = zNote := rfl
theorem lastB_nil (id : List Int) : lastB id [] = false := rfl
theorem lastN_snoc (id : List Int) (D : List NoteT) (d : NoteT) : lastN id (D ++ [d]) = if d.id = id then d else lastN id D := by unfold lastN; rw [lastS_snoc]; split <;> rfl
theorem lastB_snoc (id : List Int) (D : List NoteT) (d : NoteT) : lastB id (D ++ [d]) = if d.id = id then true else lastB id D := by unfold lastB; rw [lastS_snoc]; split <;> rfl
theorem take_snoc {D : List NoteT} {d : NoteT} {i : Nat} (h : i < D.length) (hd : d = D[i]) : D.take (i + 1) = D.take i ++ [d] := by rw [List.take_succ_eq_append_getElem h, hd]
theorem lastS_in {id : List Int} : ∀ {D : List NoteT} {a : Option NoteT} {d : NoteT}, lastS id a D = some d → d ∈ D ∨ a = some d
  | [], a, d, h => .inr h
  | e :: D, a, d, h => by
    rcases lastS_in (D := D) (a := if e.id = id then some e else a) h with g | g
    · exact .inl (List.mem_cons_of_mem _ g)
    · split at g
      · cases g; exact .inl List.mem_cons_self
      · exact .inr g
theorem lastN_prop {id : List Int} {D : List NoteT} {P : NoteT → Prop} (h : ∀ d ∈ D, P d) (hz : P zNote) : P (lastN id D) := by
  unfold lastN
  cases hl : lastS id none D with
  | none => exact hz
  | some d =>
    rcases lastS_in hl with g | g
    · exact h d g
    · cases g
theorem zNote_ok : NOK zNote := ⟨rfl, B8_zeros 16, by unfold RightN zNote; decide⟩
theorem unit_ntd {D : List NoteT} {d : NoteT} {j : Nat} (h : Ids D) (hj : j < D.length) (hd : d = D[j]) : unit true 19 ((nts D).drop (j * 19)) (.ag (noteX d.id d.nx d.vo d.it)) := by rw [hd]; exact unit_nts h hj
instance {x v i : Int} : Decidable (RightN x v i) := by unfold RightN; infer_instance
def rts (D : List NoteT) : List NoteT := D.filter fun d => decide (RightN d.nx d.vo d.it)
theorem rts_snoc (D : List NoteT) (d : NoteT) : rts (D ++ [d]) = if RightN d.nx d.vo d.it then rts D ++ [d] else rts D := by
  unfold rts
  rw [List.filter_append]
  by_cases h : RightN d.nx d.vo d.it <;> simp [h]
theorem rts_ok {D : List NoteT} (h : Ids D) : ∀ d ∈ rts D, NOK d := fun d hd => by
  unfold rts at hd
  obtain ⟨h1, h2⟩ := List.mem_filter.1 hd
  exact ⟨(h d h1).1, (h d h1).2, by simpa using h2⟩
theorem rts_take {D : List NoteT} {d : NoteT} {i : Nat} (h : i < D.length) (hd : d = D[i]) : rts (D.take (i + 1)) = if RightN d.nx d.vo d.it then rts (D.take i) ++ [d] else rts (D.take i) := by rw [take_snoc h hd, rts_snoc]
theorem rts_len (D : List NoteT) : (rts D).length ≤ D.length := List.length_filter_le _ _
theorem nBd_le {d : NoteT} (h : d.id.length = 16) : (nBd d).length ≤ 42 := by
  have := nL_le (x := d.nx) (v := d.vo) (i := d.it) h
  unfold nBd; rw [length_nB h]; omega
theorem flat_le : ∀ {D : List NoteT}, Ids D → (flatB D).length ≤ 42 * D.length
  | [], _ => Nat.zero_le _
  | d :: D, h => by
    have h1 := flat_le (D := D) (fun e he => h e (List.mem_cons_of_mem _ he))
    have h2 := nBd_le (h d List.mem_cons_self).1
    rw [flatB_cons, List.length_append, List.length_cons]; omega
theorem one_nts : ∀ {D : List NoteT}, (nts D).all AV.one = true
  | [] => rfl
  | d :: D => by rw [nts_cons, List.all_append, one_noteO, one_nts (D := D)]; rfl
@[simp] theorem renL_cons18 {τ : Nat → Nat} {x : AV} {xs : List AV} : AV.renL τ (x :: xs) = AV.ren τ x :: AV.renL τ xs := by simp [AV.renL]
@[simp] theorem renL_nil18 {τ : Nat → Nat} : AV.renL τ [] = [] := by simp [AV.renL]
@[simp] theorem novsL_noteX {id : List Int} {x v i : Int} : AV.novsL (noteX id x v i) := by
  unfold noteX
  rw [novsL_iff]
  intro y hy
  rcases List.mem_append.1 hy with hy | hy
  · exact novsL_iff.1 (novsL_I _) y hy
  · simp only [List.mem_cons, List.not_mem_nil, or_false] at hy
    rcases hy with rfl | rfl | rfl <;> simp [AV.novs]
@[simp] theorem novsL_nts : ∀ {D : List NoteT}, AV.novsL (nts D)
  | [] => by simp [nts, AV.novsL]
  | d :: D => by
    rw [nts_cons, novsL_iff]
    intro y hy
    rcases List.mem_append.1 hy with hy | hy
    · exact novsL_iff.1 (novsL_noteX (id := d.id)) y hy
    · exact novsL_iff.1 (novsL_nts (D := D)) y hy
attribute [irreducible] noteX nE nL nB flatB pV lastN lastB rts
end Go.Sk
