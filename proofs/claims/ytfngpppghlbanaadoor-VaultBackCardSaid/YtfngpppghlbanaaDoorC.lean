/- Own work: a calculus for walks through the program, and plain laws: Fw10, Fw11, Fw12, Fw13, Fw14, Fw15, Fw16 -/
import Derived.Test.YtfngpppghlbanaaDoorB
import Derived.IntWalk
import Derived.Laws.BytesString
namespace Go.Sk
open Go.RowKit
def over (cs : List AV) (off : Nat) (xs : List AV) : List AV := cs.take off ++ xs ++ cs.drop (off + xs.length)
theorem over_length {cs xs : List AV} {off : Nat} (h : off + xs.length ≤ cs.length) : (over cs off xs).length = cs.length := by
  simp only [over, List.length_append, List.length_take, List.length_drop]; omega
theorem over_sim {ρ : Nat → Value} {w : World} {O : Nat → Prop} {cs xs : List AV} {us vs : List Value} {off : Nat} (h : AV.simL ρ w O cs us) (hx : AV.simL ρ w O xs vs) :
    AV.simL ρ w O (over cs off xs) (us.take off ++ vs ++ us.drop (off + vs.length)) := by
  unfold over
  rw [simL_length hx]
  exact simL_append (simL_append (simL_take _ h) hx) (simL_drop _ h)
theorem over_bd {S : Nat → Prop} {cs xs : List AV} {off : Nat} (h : AV.inSL S cs) (hx : AV.inSL S xs) : AV.inSL S (over cs off xs) := by
  rw [inSL_iff] at *
  intro x hm
  simp only [over, List.mem_append] at hm
  rcases hm with (hm | hm) | hm
  · exact h x (List.mem_of_mem_take hm)
  · exact hx x hm
  · exact h x (List.mem_of_mem_drop hm)
theorem run_stores (P : Program) (g o B : Nat) (t : TypeId) (lo hi : Nat) (hfz : ∀ x, x < B → ¬ (lo ≤ x ∧ x < hi)) : ∀ (vs : List Value) (i : Nat) (cur : Array Value) (w : World), w.heap[g]? = some (.cells cur t (lo, hi)) → o + i + vs.length ≤ cur.size → o + i + vs.length ≤ B →
    (∀ v ∈ vs, v.oneCell' = true) → (storeCells ⟨g, o, none⟩ vs i).run P w = .ok () (w.setRow g (cur.toList.take (o + i) ++ vs ++ cur.toList.drop (o + i + vs.length)).toArray)
  | [], i, cur, w, hg, _, _, _ => by
    simp only [storeCells, List.append_nil, List.length_nil, Nat.add_zero, List.take_append_drop, Array.toArray_toList]
    rw [setRow_self w g cur t (lo, hi) hg]
    rfl
  | v :: rest, i, cur, w, hg, hl, hB, h1 => by
    simp only [List.length_cons] at hl hB
    have hi' : o + i < cur.size := by omega
    have hcell : w.cell? ⟨g, o + i, none⟩ = some cur[o + i] := by simp [World.cell?, hg, hi']
    have hfro : w.frozen? ⟨g, o + i, none⟩ = false := by
      have := hfz (o + i) (by omega)
      simp only [World.frozen?, hg]
      simp; omega
    have hst : (store ((⟨g, o, none⟩ : Addr).add i) v).run P w = .ok () (w.setRow g (cur.setIfInBounds (o + i) v)) := by
      rw [add_none, run_store P w _ v _ (h1 v (by simp)), hcell]
      simp [hfro, setCell_eq_setRow w g (o + i) cur t (lo, hi) v hg]
    have ih := run_stores P g o B t lo hi hfz rest (i + 1) (cur.setIfInBounds (o + i) v) (w.setRow g (cur.setIfInBounds (o + i) v)) (setRow_heap w g cur _ t _ hg) (by simp; omega) (by omega) (fun x hx => h1 x (by simp [hx]))
    simp only [storeCells, Sem.run_bind, hst, Result.andThen_ok, ih, setRow_setRow]
    congr 3
    have e := list_seg_step cur.toList (o + i) v rest (by simp; omega)
    simpa [Array.toList_setIfInBounds, Nat.add_assoc] using e
theorem fr_setRow (w : World) (g : Nat) (cs : Array Value) {O : Nat → Prop} (h : O g) : Fr w O (w.setRow g cs) :=
  ⟨rfl, rfl, rfl, by simp [World.setRow], fun k _ hO => setRow_other w g k cs (fun e => hO (e ▸ h))⟩
def Blk.put (bk : Blk) (off : Nat) (xs : List AV) : Blk :=
  match bk with
  | .blk t cs => .blk t (over cs off xs)
  | .row t sz n cs => .row t sz n (over cs off xs)
theorem sim_oneL {ρ : Nat → Value} {w : World} {O : Nat → Prop} : ∀ {xs : List AV} {vs : List Value}, AV.simL ρ w O xs vs → xs.all AV.one = true → ∀ v ∈ vs, v.oneCell' = true
  | [], [], _, _ => by simp
  | x :: xs, v :: vs, h, ha => by
    simp only [AV.simL] at h
    simp only [List.all_cons, Bool.and_eq_true] at ha
    intro u hu
    rcases List.mem_cons.1 hu with rfl | hu
    · exact sim_one ha.1 h.1
    · exact sim_oneL h.2 ha.2 u hu
  | [], _ :: _, h, _ => by simp [AV.simL] at h
  | _ :: _, [], h, _ => by simp [AV.simL] at h
theorem stores_blk {P : Program} {X : Nat → Prop} {ρ : Nat → Value} {w : World} {S : Nat → Prop} {ro : List (Nat × Blk)} {k off bl : Nat} {bk : Blk} {xs : List AV} {vs : List Value} (hk : HOK X ρ w (lk (ro ++ [(k, bk)])))
    (s2 : ∀ k b, (k, b) ∈ ro → S k ∧ b.inS S) (s3 : bk.inS S) (sx : AV.inSL S xs) (hdj : lk ro k = none) (hb : blkOf (ρ k) = some bl) (hx : AV.simL ρ w (fun b => X b ∨ owned ρ (lk (ro ++ [(k, bk)])) b) xs vs) (hone : xs.all AV.one = true)
    (hle : off + xs.length ≤ bk.cs.length) :
    ∃ w', (storeCells ⟨bl, off, none⟩ vs).run P w = .ok () w' ∧ Fr w (owned ρ (lk [(k, bk)])) w' ∧ HOK X ρ w' (lk (ro ++ [(k, bk.put off xs)])) ∧ (∀ b, owned ρ (lk [(k, bk.put off xs)]) b → owned ρ (lk [(k, bk)]) b ∨ w.heap.size ≤ b) := by
  have hin : lk (ro ++ [(k, bk)]) k = some bk := by rw [lk_append, hdj]; exact lk_one k bk
  have hok := hk.ok k bk hin
  have hown : owned ρ (lk [(k, bk)]) bl := ⟨k, bk, lk_one k bk, hb⟩
  have hv1 := sim_oneL hx hone
  have hl := simL_length hx
  -- the frame, and so the values, whatever is put into the row
  have hfr : ∀ cs, Fr w (owned ρ (lk [(k, bk)])) (w.setRow bl cs) := fun cs => fr_setRow w bl cs hown
  have hmono : ∀ cs (bk' : Blk), ∀ (x : Addr) (u : Value), ¬ (X x.block ∨ owned ρ (lk (ro ++ [(k, bk)])) x.block) → w.cell? x = some u → (w.setRow bl cs).cell? x = some u ∧ ¬ (X x.block ∨ owned ρ (lk (ro ++ [(k, bk')])) x.block) := by
    intro cs bk' x u hx' hc
    refine ⟨(hfr cs).cell (fun h => hx' (.inr ?_)) hc, ?_⟩
    · obtain ⟨j, c, h1, h2⟩ := h
      rw [lk_cons] at h1
      split at h1
      · rename_i e; subst e; cases h1; exact ⟨k, bk, hin, h2⟩
      · simp [lk] at h1
    · rintro (h | ⟨j, c, h1, h2⟩)
      · exact hx' (.inl h)
      · rw [lk_append] at h1
        cases hc' : lk ro j with
        | some c' => exact hx' (.inr ⟨j, c', by rw [lk_append, hc'], h2⟩)
        | none =>
          rw [hc'] at h1
          simp only at h1
          rw [lk_cons] at h1
          split at h1
          · rename_i e; subst e; exact hx' (.inr ⟨k, bk, hin, h2⟩)
          · simp [lk] at h1
  have conv : ∀ cs (bk' : Blk) (ys : List AV) (us : List Value), AV.inSL S ys → AV.simL ρ w (fun b => X b ∨ owned ρ (lk (ro ++ [(k, bk)])) b) ys us →
      AV.simL ρ (w.setRow bl cs) (fun b => X b ∨ owned ρ (lk (ro ++ [(k, bk')])) b) ys us := fun cs bk' ys us h1 h2 => simL_mono (S := S) (hmono cs bk') (fun _ _ => rfl) ys us h1 h2
  cases bk with
  | blk t cs =>
    obtain ⟨bl', cvs, h1, h2, h3⟩ := hok
    simp only [h1, blkOf, Option.some.injEq] at hb
    subst hb
    have hl2 := simL_length h3
    simp only [Array.length_toList, Blk.cs] at hl2 hle
    have hr := run_stores P bl' off cvs.size t 0 0 (by simp) vs 0 cvs w h2 (by omega) (by omega) hv1
    refine ⟨_, hr, hfr _, ?_⟩
    obtain ⟨g1, g2, _⟩ := hok_set (bk' := Blk.put (.blk t cs) off xs) hk s2 hdj (hfr (cvs.toList.take (off + 0) ++ vs ++ cvs.toList.drop (off + 0 + vs.length)).toArray)
      ⟨bl', _, h1, setRow_heap w bl' cvs _ t (0, 0) h2, by
        simp only [Nat.add_zero]
        exact conv _ _ _ _ (over_bd s3 sx) (over_sim h3 hx)⟩
    exact ⟨g1, g2⟩
  | row t sz n cs =>
    obtain ⟨h0, h | ⟨bl', cap, cur, lo, hi, h1, h2, h3, h4, h5, h6, h7⟩⟩ := hok
    · simp [h.1, blkOf] at hb
    · simp only [h1, blkOf, Option.some.injEq] at hb
      subst hb
      simp only [Blk.cs] at hle
      have hnc : n * sz ≤ cap * sz := Nat.mul_le_mul_right _ h3
      have hr := run_stores P bl' off (cap * sz) t lo hi (by intro x hx; omega) vs 0 cur w h2 (by omega) (by omega) hv1
      refine ⟨_, hr, hfr _, ?_⟩
      obtain ⟨g1, g2, _⟩ := hok_set (bk' := Blk.put (.row t sz n cs) off xs) hk s2 hdj (hfr (cur.toList.take (off + 0) ++ vs ++ cur.toList.drop (off + 0 + vs.length)).toArray)
        ⟨by rw [over_length hle]; exact h0, .inr ⟨bl', cap, _, lo, hi, h1, setRow_heap w bl' cur _ t (lo, hi) h2, h3, h4, by simp; omega, h6, by
          simp only [Nat.add_zero]
          have e : (cur.toList.take off ++ vs ++ cur.toList.drop (off + vs.length)).take (n * sz) = (cur.toList.take (n * sz)).take off ++ vs ++ (cur.toList.take (n * sz)).drop (off + vs.length) := by
            have hoff : off ≤ n * sz := by omega
            rw [List.take_append, List.take_append, List.take_take, List.take_take, Nat.min_eq_right hoff, Nat.min_eq_left hoff, List.length_take, List.length_append, List.length_take, Array.length_toList,
              Nat.min_eq_left (by omega), List.take_of_length_le (l := vs) (by omega), List.drop_take]
          rw [e]
          exact conv _ _ _ _ (over_bd s3 sx) (over_sim h7 hx)⟩⟩
      exact ⟨g1, g2⟩
inductive SetK : List (Nat × Blk) → Nat → Blk → List (Nat × Blk) → Prop
  | here {k : Nat} {b b' : Blk} {H : List (Nat × Blk)} : SetK ((k, b) :: H) k b' ((k, b') :: H)
  | there {k k' : Nat} {b b' : Blk} {H H' : List (Nat × Blk)} (h : SetK H k b' H') (hne : Nat.beq k' k = false) : SetK ((k', b) :: H) k b' ((k', b) :: H')
theorem SetK.spec {H H' : List (Nat × Blk)} {k : Nat} {b' bk : Blk} (h : SetK H k b' H') : ∀ j, lk H' j = upd (lk H) [(k, bk)] [(k, b')] j := by
  induction h with
  | here =>
    intro j
    unfold upd
    rw [lk_cons, lk_cons, lk_cons, lk_cons]
    split <;> simp [lk]
  | @there k k' b b' H H' h hne ih =>
    intro j
    have hne' : k' ≠ k := fun e => by subst e; simp at hne
    have hnil : ∀ (j : Nat), lk ([] : List (Nat × Blk)) j = none := fun _ => rfl
    rw [lk_cons, ih j]
    unfold upd
    rw [lk_cons, lk_cons, lk_cons, hnil]
    by_cases h1 : k' = j
    · have h2 : ¬ k = j := fun e => hne' (h1.trans e.symm)
      simp [h1, h2]
    · simp [h1]
section
variable {C : Ctx} {N : Nat} {E : List (Nat × AV)} {H : List (Nat × Blk)} {d : Nat} {ty : TypeId} {ps : String} {af : Array Edge} {g : Option (Nat × Bool)}
theorem oc_store {dst : Option Tmp} {t : TypeId} {x y : Operand} {k off : Nat} {v : AV} {p q : List (Nat × AV)} {bk : Blk} {H' : List (Nat × Blk)} {b : Bool} {n : Nat} (hC : C.Ok) (hx : OpV E x (.p k off) p) (hy : OpV E y v q)
    (hk : lk H k = some bk) (hT : shp C.P t = some (b, n)) (hf : v.flat = true) (hn : v.cells.length = n) (hle : off + n ≤ bk.cs.length) (hH : SetK H k (bk.put off v.cells) H') (hdst : dst = none) :
    OpC C ⟨N, E, H⟩ ⟨dst, .store t x y, ty, ps, af, g⟩ ⟨⟨dst, .store t x y, ty, ps, af, g⟩, false, p ++ q, [], [(k, bk)], [(k, bk.put off v.cells)], .un⟩ ⟨N, E, H'⟩ := by
  subst hdst
  have hall : v.cells.all AV.one = true := by
    cases v <;> simp_all [AV.flat, AV.cells, AV.one]
  have htri : Tri C.P C.F C.n ⟨none, .store t x y, ty, ps, af, g⟩ (p ++ q) [] [(k, bk)] [(k, bk.put off v.cells)] .un := by
    refine Tri.of_value hC.fn (fun _ h => by cases h) (fun X ρ w a hp hk' hX hwr S s1 s2 s3 s4 => ?_) (fun S h1 h2 h3 h4 => ?_)
    · have h1 := hx.sim (fun t v hm => hp t v (List.mem_append_left _ hm))
      have h2 := hy.sim (fun t v hm => hp t v (List.mem_append_right _ hm))
      simp only [AV.sim] at h1
      obtain ⟨bl, h3, h4⟩ := h1
      have h5 := sim_cells hf h2
      have hS3 := s3 k bk (by simp)
      have hvS : AV.inSL S v.cells := AV.inSL_cells (hy.bd fun t v hm => s1 t v (List.mem_append_right _ hm))
      obtain ⟨w', g1, g2, g3, g4⟩ := stores_blk (P := C.P) (ro := []) (S := S) (off := off) hk' (by simp) hS3.2 hvS (by simp [lk]) h3 h5 hall (by omega)
      have hsz := (run_isAgg hT w).2
      have hl := simL_length h5
      simp only [Array.length_toList] at hl
      refine ⟨undef, w', ρ, .inr ⟨?_, rfl⟩, fun _ _ => rfl, g2, g3, g4, by simp [AV.sim]⟩
      have hne : ¬ ((a.eval y).cells.size ≠ n) := by omega
      simp only [execOp, Instr.storeAt, Instr.sureAddr, h4, storeVar, Sem.run_bind, Sem.run_pure, Result.andThen_ok, hsz, if_neg hne, g1]
    · refine ⟨by simp [AV.inS], fun j c hm => ?_⟩
      simp at hm
      obtain ⟨hj, hc⟩ := hm
      subst hc hj
      have h5 := h3 j bk (by simp)
      refine ⟨h5.1, ?_⟩
      have h6 := AV.inSL_cells (hy.bd (S := S) fun t v hm => h1 t v (List.mem_append_right _ hm))
      cases bk <;> exact over_bd h5.2 h6
  exact { op := rfl, skip := rfl, tri := htri, pre := fun t av hm => by
            rcases List.mem_append.1 hm with h | h
            · exact hx.pre t av h
            · exact hy.pre t av h
          ro := by simp, rd := fun j c hm => by simp at hm; rw [hm.1, hm.2]; exact hk
          dj := by simp [lk], new := fun j h1 h2 => by
            simp only at h1 h2
            rw [lk_cons] at h1 h2
            split at h1
            · rename_i e; rw [if_pos e] at h2; cases h2
            · simp [lk] at h1
          N := Nat.le_refl _, dst := fun t ht => by cases ht
          E1 := fun t => by simp [setE], H1 := hH.spec }
inductive DelK : List (Nat × Blk) → Nat → List (Nat × Blk) → Prop
  | here {k : Nat} {b : Blk} {H : List (Nat × Blk)} (h : lk H k = none) : DelK ((k, b) :: H) k H
  | there {k k' : Nat} {b : Blk} {H H' : List (Nat × Blk)} (h : DelK H k H') (hne : Nat.beq k' k = false) : DelK ((k', b) :: H) k ((k', b) :: H')
theorem DelK.spec {H H' : List (Nat × Blk)} {k : Nat} (h : DelK H k H') : ∀ j, lk H' j = if k = j then none else lk H j := by
  induction h with
  | @here k b H h =>
    intro j
    rw [lk_cons]
    by_cases hj : k = j
    · subst hj; simp [h]
    · simp [hj]
  | @there k k' b H H' h hne ih =>
    intro j
    have hne' : k' ≠ k := fun e => by subst e; simp at hne
    rw [lk_cons, lk_cons, ih j]
    by_cases h1 : k' = j
    · have h2 : ¬ k = j := fun e => hne' (h1.trans e.symm)
      simp [h1, h2]
    · simp [h1]
theorem run_append_zero {P : Program} (w : World) (t ty e : TypeId) (i : TypeInfo) (ht : P.underlying t = some (.slice e)) (hi : P.info? e = some i) (b a : Option Addr) (n cap c : Nat) (hn : n ≤ cap) (hb : ∀ x, b = some x → True) :
    (Builtin.append_ #[t, t] ty #[.slice b n cap, .slice a 0 c]).run P w = .ok (.slice b n cap) w := by
  have h0 : Builtin.firstCells i.size 0 (.slice a 0 c) = pure #[] := by
    cases a <;> simp [Builtin.firstCells, loadCells, loadCellsFrom]
  cases b <;> simp [Builtin.append_, run_underlying ht, sizeOf, typeInfo, hi, Builtin.lenOf, hn, h0, storeCells]
theorem run_append_in {P : Program} (w : World) (t ty e : TypeId) (i : TypeInfo) (ht : P.underlying t = some (.slice e)) (hi : P.info? e = some i)
    (gb n cap lo hi' : Nat) (cur : Array Value) (hg : w.heap[gb]? = some (.cells cur e (lo, hi'))) (a : Addr) (m c : Nat) (news : List Value) (hl : news.length = m * i.size) (hnews : ∀ (j : Nat) (u : Value), news[j]? = some u → w.cell? (a.add j) = some u) (h1 : ∀ u ∈ news, u.oneCell' = true)
    (hroom : n + m ≤ cap) (hfit : cap * i.size ≤ cur.size) (hfz : cap * i.size ≤ lo ∨ hi' ≤ lo) :
    (Builtin.append_ #[t, t] ty #[.slice (some ⟨gb, 0, none⟩) n cap, .slice (some a) m c]).run P w =
      .ok (.slice (some ⟨gb, 0, none⟩) (n + m) cap) (w.setRow gb (cur.toList.take (n * i.size) ++ news ++ cur.toList.drop (n * i.size + news.length)).toArray) := by
  have hf := run_firstCells_some (P := P) w i.size m a m c news hl hnews
  have hmul : n * i.size + m * i.size ≤ cap * i.size := by rw [← Nat.add_mul]; exact Nat.mul_le_mul_right _ hroom
  have hst := run_stores P gb (n * i.size) (cap * i.size) e lo hi' (by intro x hx; omega) news 0 cur w hg (by omega) (by omega) h1
  simp only [Nat.add_zero] at hst
  simp [Builtin.append_, run_underlying ht, sizeOf, typeInfo, hi, Builtin.lenOf, hroom, hf, Addr.add_lit, hst]
theorem take_app {l : List Value} {n m : Nat} (news : List Value) (h : n ≤ l.length) (hm : news.length = m) : (l.take n ++ news ++ l.drop (n + news.length)).take (n + m) = l.take n ++ news := by
  have h1 : (l.take n ++ news).length = n + m := by rw [List.length_append, List.length_take, Nat.min_eq_left h, hm]
  rw [← h1, List.take_left]
def rowV (w : World) (v : Value) (t : TypeId) (sz n : Nat) (us : List Value) : Prop :=
  us.length = n * sz ∧ ((v = .slice none 0 0 ∧ n = 0) ∨
    ∃ bl cap cur lo hi, v = .slice (some ⟨bl, 0, none⟩) n cap ∧ w.heap[bl]? = some (.cells cur t (lo, hi)) ∧ n ≤ cap ∧ cap ≤ maxLen ∧ cap * sz ≤ cur.size ∧ (cap * sz ≤ lo ∨ hi = lo) ∧ cur.toList.take (n * sz) = us)
theorem rowV_of {ρ : Nat → Value} {w : World} {O : Nat → Prop} {k : Nat} {t : TypeId} {sz n : Nat} {cs : List AV} (h : (Blk.row t sz n cs).ok ρ w O k) : ∃ us, rowV w (ρ k) t sz n us ∧ AV.simL ρ w O cs us := by
  obtain ⟨h0, h | ⟨bl, cap, cur, lo, hi, h1, h2, h3, h4, h5, h6, h7⟩⟩ := h
  · have : cs = [] := List.eq_nil_of_length_eq_zero (by rw [h0, h.2]; simp)
    subst this
    exact ⟨[], ⟨by rw [h.2]; simp, .inl h⟩, by simp [AV.simL]⟩
  · exact ⟨_, ⟨by rw [simL_length h7, h0], .inr ⟨bl, cap, cur, lo, hi, h1, h2, h3, h4, h5, h6, rfl⟩⟩, h7⟩
theorem rowV_ok {ρ : Nat → Value} {w : World} {O : Nat → Prop} {k : Nat} {t : TypeId} {sz n : Nat} {cs : List AV} {us : List Value} (h : rowV w (ρ k) t sz n us) (hs : AV.simL ρ w O cs us) : (Blk.row t sz n cs).ok ρ w O k := by
  obtain ⟨h0, h⟩ := h
  refine ⟨by rw [← simL_length hs, h0], ?_⟩
  rcases h with h | ⟨bl, cap, cur, lo, hi, h1, h2, h3, h4, h5, h6, h7⟩
  · exact .inl h
  · exact .inr ⟨bl, cap, cur, lo, hi, h1, h2, h3, h4, h5, h6, by rw [h7]; exact hs⟩
theorem rowV_slice {w : World} {v : Value} {t : TypeId} {sz n : Nat} {us : List Value} (h : rowV w v t sz n us) : ∃ a m c, v = .slice a m c := by
  rcases h.2 with h | ⟨bl, cap, cur, lo, hi, h1, _⟩
  · exact ⟨_, _, _, h.1⟩
  · exact ⟨_, _, _, h1⟩
theorem run_append {P : Program} (w : World) (t ty e : TypeId) (i : TypeInfo) (z : Value) (ht : P.underlying t = some (.slice e)) (hi : P.info? e = some i) (hz : i.zero = some z) (hzs : z.cells.size = i.size)
    (v : Value) (n : Nat) (us : List Value) (hv : rowV w v e i.size n us) (a : Option Addr) (m c : Nat) (news : List Value) (hl : news.length = m * i.size)
    (hnews : 0 < m → ∃ ad, a = some ad ∧ ∀ (j : Nat) (u : Value), news[j]? = some u → w.cell? (ad.add j) = some u) (h1 : ∀ u ∈ news, u.oneCell' = true) (hmax : n + m ≤ maxLen) (hb : (n + m) * i.bytes ≤ 140737488355328) :
    ∃ cv w', (Builtin.append_ #[t, t] ty #[v, .slice a m c]).run P w = .ok cv w' ∧ rowV w' cv e i.size (n + m) (us ++ news) ∧ (∀ b, blkOf cv = some b → blkOf v = some b ∨ w.heap.size ≤ b) ∧ Fr w (fun b => blkOf v = some b) w' := by
  have hsmall : n + m ≤ 9223372036854775807 := by simp only [maxLen] at hmax; omega
  obtain ⟨hul, hv⟩ := hv
  by_cases hm : m = 0
  · subst hm
    have hnil : news = [] := List.eq_nil_of_length_eq_zero (by simpa using hl)
    subst hnil
    rw [List.append_nil, Nat.add_zero]
    rcases hv with ⟨rfl, rfl⟩ | ⟨bl, cap, cur, lo, hi', rfl, h3, h4, h5, h6, h7, h8⟩
    · exact ⟨_, w, run_append_zero w t ty e i ht hi none a 0 0 c (Nat.le_refl _) (fun _ _ => trivial), ⟨hul, .inl ⟨rfl, rfl⟩⟩, fun b h => .inl h, Fr.refl _ _⟩
    · exact ⟨_, w, run_append_zero w t ty e i ht hi _ a n cap c h4 (fun _ _ => trivial), ⟨hul, .inr ⟨bl, cap, cur, lo, hi', rfl, h3, h4, h5, h6, h7, h8⟩⟩, fun b h => .inl h, Fr.refl _ _⟩
  · obtain ⟨ad, rfl, hc⟩ := hnews (by omega)
    have grown : ∀ (old : Nat), old < n + m → rowV (w.drew.alloc (.cells (us.toArray ++ news.toArray ++ Builtin.zeroCells z.cells (grownCap w (n + m) old e - (n + m))) e))
        (.slice (some ⟨w.heap.size, 0, none⟩) (n + m) (grownCap w (n + m) old e)) e i.size (n + m) (us ++ news) := by
      intro old ho
      have hge := grownCap_ge w (n + m) old e
      have hcm : grownCap w (n + m) old e ≤ maxLen := grownCap_le_maxLen w (n + m) old e hmax
      refine ⟨by rw [List.length_append, hul, hl, Nat.add_mul], .inr ⟨w.heap.size, _, _, 0, 0, rfl, heap_alloc_new w.drew _, hge, hcm, ?_, .inr rfl, ?_⟩⟩
      · simp only [Array.size_append, List.size_toArray, size_zeroCells, hzs, hul, hl, ← Nat.add_mul]
        exact Nat.mul_le_mul_right _ (by omega)
      · simp only [Array.toList_append, List.append_assoc]
        rw [← List.append_assoc, show (n + m) * i.size = (us ++ news).length by rw [List.length_append, hul, hl, Nat.add_mul]]
        exact List.take_left
    rcases hv with ⟨rfl, rfl⟩ | ⟨bl, cap, cur, lo, hi', rfl, h3, h4, h5, h6, h7, h8⟩
    · have hnil : us = [] := List.eq_nil_of_length_eq_zero (by simpa using hul)
      subst hnil
      have hr := run_append_nil (P := P) w t ty e i z ht hi hz ad m c news hl hc (by omega) (by omega) (by have h := hb; simp only [Nat.zero_add] at h; omega)
      have hg := grown 0 (by omega)
      simp only [Nat.zero_add, List.nil_append] at hg ⊢
      refine ⟨_, _, hr, ?_, fun b h => .inr ?_, ?_⟩
      · simpa using hg
      · simp [blkOf] at h; omega
      · exact fr_alloc w (w.drawn + 1) _ _
    · by_cases hroom : n + m ≤ cap
      · have hr := run_append_in (P := P) w t ty e i ht hi bl n cap lo hi' cur h3 ad m c news hl hc h1 hroom h6 (h7.imp id Nat.le_of_eq)
        have hmul : n * i.size + m * i.size ≤ cap * i.size := by rw [← Nat.add_mul]; exact Nat.mul_le_mul_right _ hroom
        refine ⟨_, _, hr, ⟨by rw [List.length_append, hul, hl, Nat.add_mul], .inr ⟨bl, cap, _, lo, hi', rfl, setRow_heap w bl cur _ e _ h3, hroom, h5, ?_, h7, ?_⟩⟩, fun b h => .inl h, fr_setRow w bl _ rfl⟩
        · simp; omega
        · show List.take _ (List.toArray _).toList = _
          rw [List.toList_toArray, Nat.add_mul, take_app news (by simp; omega) hl, h8]
      · have hcells : ∀ (j : Nat) (u : Value), us[j]? = some u → w.cell? ((⟨bl, 0, none⟩ : Addr).add j) = some u := by
          intro j u hj
          rw [add_none, Nat.zero_add, cell_of_row w bl j cur e (lo, hi') h3]
          rw [← h8, List.getElem?_take] at hj
          split at hj
          · simpa using hj
          · cases hj
        have hr := run_append_grow (P := P) w t ty e i z ht hi hz ⟨bl, 0, none⟩ n cap us hul hcells ad m c news hl hc (by omega) (by omega) (growslice_fits (by omega) hb)
        refine ⟨_, _, hr, grown cap (by omega), fun b h => .inr ?_, fr_alloc w (w.drawn + 1) _ _⟩
        simp [blkOf] at h; omega
inductive AppD (H : List (Nat × Blk)) (e : TypeId) (sz N : Nat) : AV → Nat → List AV → List (Nat × Blk) → List (Nat × Blk) → Prop
  | row {k n : Nat} {cs : List AV} {H' : List (Nat × Blk)} (h : lk H k = some (.row e sz n cs)) (hN : Nat.beq k N = false) (hd : DelK H k H') : AppD H e sz N (.row k) n cs [(k, .row e sz n cs)] H'
  | nils : AppD H e sz N .nils 0 [] [] H
theorem AppD.rd {H : List (Nat × Blk)} {e : TypeId} {sz N n : Nat} {v : AV} {cs : List AV} {rd H' : List (Nat × Blk)} (h : AppD H e sz N v n cs rd H') : ∀ k b, (k, b) ∈ rd → lk H k = some b := by
  intro k b hm
  cases h with
  | row h => simp at hm; rw [hm.1, hm.2]; exact h
  | nils => simp at hm
theorem AppD.heap {H : List (Nat × Blk)} {e : TypeId} {sz N n : Nat} {v : AV} {cs : List AV} {rd H' : List (Nat × Blk)} (h : AppD H e sz N v n cs rd H') (b : Blk) : ∀ j, lk ((N, b) :: H') j = upd (lk H) rd [(N, b)] j := by
  intro j
  cases h with
  | @row k n cs H' h hN hd =>
    have hne : k ≠ N := fun e => by subst e; simp at hN
    rw [lk_cons, hd.spec j]
    unfold upd
    rw [lk_cons, lk_cons]
    by_cases h1 : N = j
    · simp [h1]
    · by_cases h2 : k = j
      · simp [h1, h2, lk]
      · simp [h1, h2, lk]
  | nils =>
    rw [lk_cons]
    unfold upd
    rw [lk_cons]
    by_cases h1 : N = j
    · simp [h1]
    · simp [h1, lk]
theorem oc_append {x y : Operand} {t e : TypeId} {n m sz by_ : Nat} {dv av : AV} {cs xs zs : List AV} {p q : List (Nat × AV)} {ro rd : List (Nat × Blk)} {H' : List (Nat × Blk)} (hC : C.Ok)
    (hx : OpV E x dv p) (hy : OpV E y av q) (hk : AppD H e sz N dv n cs rd H') (hs : Sl H av m xs ro) (hro : ∀ k b, (k, b) ∈ rd → lk ro k = none)
    (hu : C.P.underlying t = some (.slice e)) (hsz : C.P.cellsOf e = sz) (hby : (C.P.info? e).map (·.bytes) = some by_) (hz : zeroAV C.P e = some zs) (hzl : zs.length = sz) (h0 : 0 < sz) (hml : m * sz ≤ xs.length)
    (hone : (xs.take (m * sz)).all AV.one = true) (hmax : n + m ≤ maxLen) (hb : (n + m) * by_ ≤ 140737488355328) (hd : Nat.blt d C.T = true) (hd6 : Nat.blt d 1000000 = true) :
    OpC C ⟨N, E, H⟩ ⟨some d, .call ⟨.builtin .append, #[x, y], #[t, t]⟩, ty, ps, af, g⟩ ⟨⟨some d, .call ⟨.builtin .append, #[x, y], #[t, t]⟩, ty, ps, af, g⟩, false, p ++ q, ro, rd, [(N, .row e sz (n + m) (cs ++ xs.take (m * sz)))], .row N⟩
      ⟨N + 1, (d, .row N) :: E, (N, .row e sz (n + m) (cs ++ xs.take (m * sz))) :: H'⟩ := by
  obtain ⟨i, hi, hbi⟩ := Option.map_eq_some_iff.1 hby
  have hsi : i.size = sz := by rw [← run_cellsOf hi]; exact hsz
  subst hsi hbi
  have hdj : ∀ j, lk rd j ≠ none → lk ro j = none := by
    intro j hj
    obtain ⟨b, hb⟩ := Option.ne_none_iff_exists'.1 hj
    exact hro j b (lk_mem hb)
  have htri : Tri C.P C.F C.n ⟨some d, .call ⟨.builtin .append, #[x, y], #[t, t]⟩, ty, ps, af, g⟩ (p ++ q) ro rd [(N, .row e i.size (n + m) (cs ++ xs.take (m * i.size)))] (.row N) := by
    refine Tri.of_value hC.fn (fun _ h => by cases h) (fun X ρ w a hp hkk hX hwr S s1 s2 s3 s4 => ?_) (fun S h1 h2 h3 h4 => ?_)
    · have hxv := hx.sim (fun t v hm => hp t v (List.mem_append_left _ hm))
      have hyv := hy.sim (fun t v hm => hp t v (List.mem_append_right _ hm))
      -- what is appended to
      have hrow : ∃ us, rowV w (a.eval x) e i.size n us ∧ AV.simL ρ w (fun b => X b ∨ owned ρ (lk (ro ++ rd)) b) cs us ∧ AV.inSL S cs ∧ lk rd N = none ∧ (∀ b, blkOf (a.eval x) = some b → owned ρ (lk rd) b) := by
        cases hk with
        | @row k n cs H' h hN hd =>
          have hin : lk (ro ++ [(k, .row e i.size n cs)]) k = some (.row e i.size n cs) := by rw [lk_append, hro k _ (List.mem_singleton.2 rfl)]; exact lk_one k _
          simp only [AV.sim] at hxv
          obtain ⟨us, h1, h2⟩ := rowV_of (hkk.ok k _ hin)
          refine ⟨us, by rw [hxv.1]; exact h1, h2, (s3 k _ (List.mem_singleton.2 rfl)).2, ?_, fun b hb => ⟨k, _, lk_one k _, by rw [← hxv.1]; exact hb⟩⟩
          have hne : k ≠ N := fun e => by rw [e] at hN; simp at hN
          rw [lk_cons, if_neg hne]; rfl
        | nils =>
          simp only [AV.sim] at hxv
          exact ⟨[], by rw [hxv]; exact ⟨by simp, .inl ⟨rfl, rfl⟩⟩, by simp [AV.simL], by simp [AV.inSL], rfl, fun b hb => by rw [hxv] at hb; simp [blkOf] at hb⟩
      obtain ⟨us, hrv, hrs, hcsS, hrN, hown⟩ := hrow
      have hκ : ¬ S N := s4 N (by simp [lk_one]) hrN
      obtain ⟨a2, c2, cvs, hy2, hmc, hsv, had⟩ := hs.sim hyv (fun j b hj => hkk.ok j b (by rw [lk_append, hj]))
      have hcvl := simL_length hsv
      have hsv' := simL_take (m * i.size) hsv
      have hxsS : AV.inSL S (xs.take (m * i.size)) := by
        have := hs.bd (hy.bd fun t v hm => s1 t v (List.mem_append_right _ hm)) s2
        rw [inSL_iff] at this ⊢
        exact fun x hx => this x (List.mem_of_mem_take hx)
      obtain ⟨z, hzr, hzc⟩ := run_zeroAV hz w
      have hzz : i.zero = some z := by
        unfold zeroValue at hzr
        simp only [Sem.run_bind, typeInfo, run_program, Result.andThen_ok, hi, Sem.run_pure] at hzr
        cases hzo : i.zero with
        | none => rw [hzo] at hzr; simp at hzr
        | some z' => rw [hzo] at hzr; simp at hzr; rw [hzr]
      have hzs : z.cells.size = i.size := by
        have := simL_length (cvals_sim (ρ := ρ) (w := w) (O := fun _ => True) hzc)
        simpa [hzl] using this
      obtain ⟨cv, w', r1, r2, r3, r4⟩ := run_append (P := C.P) w t ty e i z hu hi hzz hzs (a.eval x) n us hrv a2 m c2 (cvs.take (m * i.size)) (by rw [List.length_take]; omega)
        (fun hm => by
          have hlen : 0 < xs.length := by have := Nat.mul_pos hm h0; omega
          obtain ⟨ad, h1, h2⟩ := had hm hlen
          exact ⟨ad, h1, fun j u hj => h2 j u (by rw [List.getElem?_take] at hj; split at hj; exact hj; cases hj)⟩) (sim_oneL hsv' hone) hmax hb
      have hfr : Fr w (owned ρ (lk rd)) w' := r4.mono (fun b hb => hown b hb)
      have hbc : ∀ b, blkOf cv = some b → owned ρ (lk rd) b ∨ w.heap.size ≤ b := fun b hb => (r3 b hb).imp (hown b) id
      have hcells : ∀ (xx : Addr) (v : Value), ¬ (X xx.block ∨ owned ρ (lk (ro ++ rd)) xx.block) → w.cell? xx = some v → w'.cell? xx = some v ∧
          ¬ (X xx.block ∨ owned (upd1 ρ N cv) (lk (ro ++ [(N, .row e i.size (n + m) (cs ++ xs.take (m * i.size)))])) xx.block) := by
        intro xx v hx' hc
        have hrdin : ∀ b, owned ρ (lk rd) b → owned ρ (lk (ro ++ rd)) b := fun b ⟨k, c, h1, h2⟩ => ⟨k, c, by rw [lk_append, hdj k (by rw [h1]; simp)]; exact h1, h2⟩
        refine ⟨hfr.cell (fun h => hx' (.inr (hrdin _ h))) hc, ?_⟩
        rintro (h | ⟨k, c, h5, h6⟩)
        · exact hx' (.inl h)
        · rw [lk_append] at h5
          cases hcc : lk ro k with
          | some c' =>
            have hne : k ≠ N := fun e => by subst e; exact hκ (s2 _ c' (lk_mem hcc)).1
            rw [upd1_ne hne] at h6
            exact hx' (.inr ⟨k, c', by rw [lk_append, hcc], h6⟩)
          | none =>
            rw [hcc] at h5
            simp only at h5
            rw [lk_cons] at h5
            split at h5
            · rename_i e'; subst e'
              rw [upd1_eq] at h6
              rcases hbc _ h6 with h7 | h7
              · exact hx' (.inr (hrdin _ h7))
              · have := block_lt_of_cell hc; omega
            · simp [lk] at h5
      have hconv : ∀ ys vs, AV.inSL S ys → AV.simL ρ w (fun b => X b ∨ owned ρ (lk (ro ++ rd)) b) ys vs →
          AV.simL (upd1 ρ N cv) w' (fun b => X b ∨ owned (upd1 ρ N cv) (lk (ro ++ [(N, .row e i.size (n + m) (cs ++ xs.take (m * i.size)))])) b) ys vs := fun ys vs h1 h2 =>
        simL_mono (S := S) hcells (fun k hkS => upd1_ne fun e' => hκ (by rw [← e']; exact hkS)) ys vs h1 h2
      obtain ⟨g1, g2, _, _⟩ := hok_new (bk := .row e i.size (n + m) (cs ++ xs.take (m * i.size))) (cv := cv) hkk hX s2 hκ hdj hfr hbc
        (rowV_ok (us := us ++ cvs.take (m * i.size)) (by rw [upd1_eq]; exact r2) (simL_append (hconv _ _ hcsS hrs) (hconv _ _ hxsS hsv')))
      refine ⟨cv, w', upd1 ρ N cv, .inl (run_builtin a w _ _ _ _ _ _ ?_), fun k hk' => ?_, hfr, g1, g2, ?_⟩
      · simp only [builtin, Sem.run_bind]
        have e1 : (#[x, y] : Array Operand).map a.eval = #[a.eval x, a.eval y] := by simp
        rw [e1, hy2, r1]; rfl
      · refine upd1_ne fun e' => ?_
        subst e'
        rcases hk' with hk' | hk'
        · simp [lk_one] at hk'
        · exact hk' hrN
      · simp only [AV.sim]
        exact ⟨upd1_eq.symm, rowV_slice r2⟩
    · have hrN : lk rd N = none := by
        cases hk with
        | @row k n cs H' h hN hd =>
          have hne : k ≠ N := fun e => by rw [e] at hN; simp at hN
          rw [lk_cons, if_neg hne]; rfl
        | nils => rfl
      have hN := h4 N (by simp [lk_one]) hrN
      refine ⟨by simp only [AV.inS]; exact hN, fun j c hm => ?_⟩
      simp at hm
      obtain ⟨hj, hc⟩ := hm
      subst hj hc
      refine ⟨hN, ?_⟩
      have hcsS : AV.inSL S cs := by
        cases hk with
        | row h hN hd => exact (h3 _ _ (List.mem_singleton.2 rfl)).2
        | nils => simp [AV.inSL]
      have hxsS := hs.bd (hy.bd (S := S) fun t v hm => h1 t v (List.mem_append_right _ hm)) h2
      show AV.inSL S (cs ++ xs.take (m * i.size))
      rw [inSL_iff] at *
      intro x hx
      rcases List.mem_append.1 hx with hx | hx
      · exact hcsS x hx
      · exact hxsS x (List.mem_of_mem_take hx)
  exact { op := rfl, skip := rfl, tri := htri, pre := fun t av hm => by
            rcases List.mem_append.1 hm with h | h
            · exact hx.pre t av h
            · exact hy.pre t av h
          ro := hs.ro, rd := hk.rd, dj := hdj
          new := fun j h1 h2 => by
            simp only at h1
            rw [lk_cons] at h1
            split at h1
            · rename_i e'; subst e'; exact ⟨Nat.le_refl _, Nat.lt_succ_self _⟩
            · simp [lk] at h1
          N := Nat.le_succ _
          dst := fun t ht => by cases ht; exact ⟨blt_lt hd, blt_lt hd6⟩
          E1 := fun t => setE_cons _ _ _ _, H1 := hk.heap _ }
end
end Go.Sk
namespace Go.Sk
open Go.RowKit
structure Ent (P : Program) (f : FuncId) : Prop where
  ent : ∃ fn, P.funcs[f]? = some fn ∧ (fn.name == "runtime.NumGoroutine") = false ∧ fn.body.isSome = true
theorem Ent.run {P : Program} {f : FuncId} (h : Ent P f) (args : Array Value) (w : World) : (callFunc f args).run P w = .ok (.enter f args) w := by
  obtain ⟨fn, h1, h2, h3⟩ := h.ent
  unfold callFunc
  simp only [Sem.run_bind, run_program, Result.andThen_ok, h1, h2]
  have h4 : fn.body.isNone = false := by cases hb : fn.body <;> simp_all
  simp [h4]
structure FnC (P : Program) (f : FuncId) (G : List (Nat × AV)) (args : List AV) (rd wr : List (Nat × Blk)) (v : AV) : Prop where
  ent : Ent P f
  sem : ∀ (F : Fence) (n : Nat) (X : Nat → Prop) (ρ : Nat → Value) (w : World) (cargs : List Value), (∀ g, F.fn g) → F.depth = none → F.round = none →
    (∀ t av, (t, av) ∈ G → av.sim ρ w (fun b => X b ∨ owned ρ (lk rd) b) (.pointer (some ⟨t - 1000000, 0, none⟩))) →
    AV.simL ρ w (fun b => X b ∨ owned ρ (lk rd) b) args cargs → HOK X ρ w (lk rd) → (∀ b, X b → b < w.heap.size) →
    CallsIn F n P f cargs.toArray w fun e w' => ∃ ρ' cv, e = .returned cv ∧ (∀ k, lk wr k = none ∨ lk rd k ≠ none → ρ' k = ρ k) ∧ Fr w (owned ρ (lk rd)) w' ∧
      HOK X ρ' w' (lk wr) ∧ (∀ b, owned ρ' (lk wr) b → owned ρ (lk rd) b ∨ w.heap.size ≤ b) ∧ v.sim ρ' w' (fun b => X b ∨ owned ρ' (lk wr) b) cv
  bd : ∀ S : Nat → Prop, AV.inSL S args → (∀ k b, (k, b) ∈ rd → S k ∧ b.inS S) → (∀ k, lk wr k ≠ none → lk rd k = none → S k) → v.inS S ∧ ∀ k b, (k, b) ∈ wr → S k ∧ b.inS S
def Blk.ren (τ : Nat → Nat) : Blk → Blk
  | .blk t cs => .blk t (AV.renL τ cs)
  | .row t sz n cs => .row t sz n (AV.renL τ cs)
def renP (τ : Nat → Nat) (p : Nat × Blk) : Nat × Blk := (τ p.1, p.2.ren τ)
theorem Blk.ren_cs (τ : Nat → Nat) (b : Blk) : (b.ren τ).cs = AV.renL τ b.cs := by cases b <;> rfl
section
variable {τ : Nat → Nat}
theorem lk_ren : ∀ {l : List (Nat × Blk)} {k : Nat} {b : Blk}, (∀ p ∈ l, ∀ q ∈ l, τ p.1 = τ q.1 → p.1 = q.1) → lk l k = some b → lk (l.map (renP τ)) (τ k) = some (b.ren τ)
  | [], _, _, _, h => by simp [lk] at h
  | (k', c) :: r, k, b, hi, h => by
    rw [lk_cons] at h
    rw [List.map_cons]
    show lk ((τ k', c.ren τ) :: _) _ = _
    rw [lk_cons]
    by_cases hk : k' = k
    · subst hk
      rw [if_pos rfl] at h
      simp at h; subst h
      rw [if_pos rfl]
    · rw [if_neg hk] at h
      have hm := lk_mem h
      rw [if_neg (fun he => hk (hi _ List.mem_cons_self _ (List.mem_cons_of_mem _ hm) he))]
      exact lk_ren (fun p hp q hq => hi p (List.mem_cons_of_mem _ hp) q (List.mem_cons_of_mem _ hq)) h
theorem lk_ren_inv : ∀ {l : List (Nat × Blk)} {j : Nat} {b : Blk}, (∀ p ∈ l, ∀ q ∈ l, τ p.1 = τ q.1 → p.1 = q.1) → lk (l.map (renP τ)) j = some b → ∃ k c, lk l k = some c ∧ τ k = j ∧ b = c.ren τ
  | [], _, _, _, h => by simp [lk] at h
  | (k', c) :: r, j, b, hi, h => by
    rw [List.map_cons] at h
    change lk ((τ k', c.ren τ) :: _) _ = _ at h
    rw [lk_cons] at h
    split at h
    · rename_i e
      simp at h; subst h
      exact ⟨k', c, by rw [lk_cons, if_pos rfl], e, rfl⟩
    · rename_i e
      obtain ⟨k, d, h1, h2, h3⟩ := lk_ren_inv (fun p hp q hq => hi p (List.mem_cons_of_mem _ hp) q (List.mem_cons_of_mem _ hq)) h
      refine ⟨k, d, ?_, h2, h3⟩
      rw [lk_cons, if_neg (fun he => e (by rw [he]; exact h2))]
      exact h1
end
mutual
theorem inS_ren {S : Nat → Prop} (τ : Nat → Nat) : ∀ (x : AV), (x.ren τ).inS S ↔ x.inS (fun k => S (τ k))
  | .i _ _ | .b _ | .s _ | .nilp | .nils | .nilf | .un | .p _ _ | .row _ | .sl _ _ _ => by simp [AV.ren, AV.inS]
  | .vs _ xs | .rp xs | .ag xs | .tu xs | .f _ xs => by simp only [AV.ren, AV.inS]; exact inSL_ren τ xs
theorem inSL_ren {S : Nat → Prop} (τ : Nat → Nat) : ∀ (xs : List AV), AV.inSL S (AV.renL τ xs) ↔ AV.inSL (fun k => S (τ k)) xs
  | [] => by simp [AV.renL, AV.inSL]
  | x :: xs => by simp only [AV.renL, AV.inSL, inS_ren τ x, inSL_ren τ xs]
end
mutual
theorem ren_free (τ : Nat → Nat) : ∀ (x : AV), x.inS (fun _ => False) → x.ren τ = x
  | .i _ _, _ | .b _, _ | .s _, _ | .nilp, _ | .nils, _ | .nilf, _ | .un, _ => rfl
  | .p _ _, h | .row _, h | .sl _ _ _, h => by simp [AV.inS] at h
  | .vs _ xs, h | .rp xs, h | .ag xs, h | .tu xs, h | .f _ xs, h => by simp only [AV.inS] at h; simp only [AV.ren, renL_free τ xs h]
theorem renL_free (τ : Nat → Nat) : ∀ (xs : List AV), AV.inSL (fun _ => False) xs → AV.renL τ xs = xs
  | [], _ => rfl
  | x :: xs, h => by simp only [AV.inSL] at h; simp only [AV.renL, ren_free τ x h.1, renL_free τ xs h.2]
end
mutual
theorem sim_novs {ρ : Nat → Value} {w w' : World} {O O' : Nat → Prop} : ∀ (x : AV) (v : Value), x.novs → (x.sim ρ w O v ↔ x.sim ρ w' O' v)
  | .i _ _, _, _ | .b _, _, _ | .s _, _, _ | .nilp, _, _ | .nils, _, _ | .nilf, _, _ | .un, _, _ | .p _ _, _, _ | .row _, _, _ | .sl _ _ _, _, _ => by simp [AV.sim]
  | .vs _ _, _, h | .rp _, _, h => by simp [AV.novs] at h
  | .ag xs, _, h | .tu xs, _, h | .f _ xs, _, h => by
    simp only [AV.novs] at h
    simp only [AV.sim]
    constructor
    · rintro ⟨cvs, h1, h2⟩; exact ⟨cvs, h1, (simL_novs xs cvs h).1 h2⟩
    · rintro ⟨cvs, h1, h2⟩; exact ⟨cvs, h1, (simL_novs xs cvs h).2 h2⟩
theorem simL_novs {ρ : Nat → Value} {w w' : World} {O O' : Nat → Prop} : ∀ (xs : List AV) (vs : List Value), AV.novsL xs → (AV.simL ρ w O xs vs ↔ AV.simL ρ w' O' xs vs)
  | [], [], _ => by simp [AV.simL]
  | x :: xs, v :: vs, h => by
    simp only [AV.novsL] at h
    simp only [AV.simL]
    rw [sim_novs x v h.1, simL_novs xs vs h.2]
  | [], _ :: _, _ => by simp [AV.simL]
  | _ :: _, [], _ => by simp [AV.simL]
end
inductive View (H : List (Nat × Blk)) : List AV → List AV → List (Nat × Blk) → Prop
  | same {vs : List AV} (h : AV.inSL (fun _ => False) vs) : View H vs vs []
  | free {v : AV} {xs ys : List AV} {ro : List (Nat × Blk)} (h : v.inS (fun _ => False)) (t : View H xs ys ro) : View H (v :: xs) (v :: ys) ro
  | row {k n sz : Nat} {t : TypeId} {cs us xs ys : List AV} {r ro : List (Nat × Blk)} (h : lk H k = some (.row t sz n cs)) (hc : View H cs us r) (q : View H xs ys ro) :
      View H (.row k :: xs) (.vs n us :: ys) ((k, .row t sz n cs) :: (r ++ ro))
  | sl {k off len m : Nat} {bk : Blk} {ds us xs ys : List AV} {r ro : List (Nat × Blk)} (h : lk H k = some bk) (hd : (bk.cs.drop off).take m = ds) (hm : len = 0 → m = 0) (hc : View H ds us r) (q : View H xs ys ro) :
      View H (.sl k off len :: xs) (.vs len us :: ys) ((k, bk) :: (r ++ ro))
  | p {k off : Nat} {bk : Blk} {ds us xs ys : List AV} {r ro : List (Nat × Blk)} (h : lk H k = some bk) (hd : bk.cs.drop off = ds) (hc : View H ds us r) (q : View H xs ys ro) :
      View H (.p k off :: xs) (.rp us :: ys) ((k, bk) :: (r ++ ro))
  | vs {n : Nat} {ds us xs ys : List AV} {r ro : List (Nat × Blk)} (hc : View H ds us r) (q : View H xs ys ro) : View H (.vs n ds :: xs) (.vs n us :: ys) (r ++ ro)
  | nils {xs ys : List AV} {ro : List (Nat × Blk)} (q : View H xs ys ro) : View H (.nils :: xs) (.vs 0 [] :: ys) ro
section
variable {H : List (Nat × Blk)} {xs ys : List AV} {rr : List (Nat × Blk)}
theorem View.rom (h : View H xs ys rr) : ∀ k b, (k, b) ∈ rr → lk H k = some b := by
  induction h with
  | same => simp
  | free _ _ ih => exact ih
  | row h hc q ih1 ih2 =>
    intro k b hm
    rcases List.mem_cons.1 hm with hm | hm
    · cases hm; exact h
    · rcases List.mem_append.1 hm with hm | hm
      · exact ih1 k b hm
      · exact ih2 k b hm
  | sl h hd hm' hc q ih1 ih2 =>
    intro k b hm
    rcases List.mem_cons.1 hm with hm | hm
    · cases hm; exact h
    · rcases List.mem_append.1 hm with hm | hm
      · exact ih1 k b hm
      · exact ih2 k b hm
  | p h hd hc q ih1 ih2 =>
    intro k b hm
    rcases List.mem_cons.1 hm with hm | hm
    · cases hm; exact h
    · rcases List.mem_append.1 hm with hm | hm
      · exact ih1 k b hm
      · exact ih2 k b hm
  | vs hc q ih1 ih2 =>
    intro k b hm
    rcases List.mem_append.1 hm with hm | hm
    · exact ih1 k b hm
    · exact ih2 k b hm
  | nils q ih => exact ih
theorem View.keyless (h : View H xs ys rr) : AV.inSL (fun _ => False) ys := by
  induction h with
  | same h => exact h
  | free h _ ih => simp only [AV.inSL]; exact ⟨h, ih⟩
  | row _ _ _ ih1 ih2 => simp only [AV.inSL, AV.inS]; exact ⟨ih1, ih2⟩
  | sl _ _ _ _ _ ih1 ih2 => simp only [AV.inSL, AV.inS]; exact ⟨ih1, ih2⟩
  | p _ _ _ _ ih1 ih2 => simp only [AV.inSL, AV.inS]; exact ⟨ih1, ih2⟩
  | vs _ _ ih1 ih2 => simp only [AV.inSL, AV.inS]; exact ⟨ih1, ih2⟩
  | nils _ ih => simp only [AV.inSL, AV.inS, true_and]; exact ih
theorem View.sim (h : View H xs ys rr) {ρ ρ' : Nat → Value} {w : World} {O O' : Nat → Prop} {vs : List Value} (hs : AV.simL ρ w O xs vs) (hk : ∀ k b, (k, b) ∈ rr → b.ok ρ w O k)
    (hO : ∀ b, O' b → O b) (hn : ∀ k b c, (k, b) ∈ rr → blkOf (ρ k) = some c → ¬ O' c) : AV.simL ρ' w O' ys vs := by
  induction h generalizing vs with
  | same h => exact simL_mono (S := fun _ => False) (fun a v h1 h2 => ⟨h2, fun h3 => h1 (hO _ h3)⟩) (fun _ h => h.elim) _ _ h hs
  | free h q ih =>
    cases vs with
    | nil => simp [AV.simL] at hs
    | cons v vs =>
      simp only [AV.simL] at hs ⊢
      exact ⟨sim_mono (S := fun _ => False) (fun a v h1 h2 => ⟨h2, fun h3 => h1 (hO _ h3)⟩) (fun _ h => h.elim) _ _ h hs.1, ih hs.2 hk hn⟩
  | @row k n sz t cs us xs ys r ro h hc q ih1 ih2 =>
    cases vs with
    | nil => simp [AV.simL] at hs
    | cons v vs =>
      simp only [AV.simL] at hs ⊢
      refine ⟨?_, ih2 hs.2 (fun k b hm => hk k b (List.mem_cons_of_mem _ (List.mem_append_right _ hm))) (fun k b c hm => hn k b c (List.mem_cons_of_mem _ (List.mem_append_right _ hm)))⟩
      have hs1 := hs.1
      simp only [AV.sim] at hs1
      obtain ⟨hs1, _⟩ := hs1
      have hok := hk k _ List.mem_cons_self
      have hsub := fun (cvs : List Value) (h : AV.simL ρ w O cs cvs) => ih1 h (fun k b hm => hk k b (List.mem_cons_of_mem _ (List.mem_append_left _ hm))) (fun k b c hm => hn k b c (List.mem_cons_of_mem _ (List.mem_append_left _ hm)))
      simp only [AV.sim]
      obtain ⟨h0, ⟨h1, hn0⟩ | ⟨bl, cap, cur, lo, hi, h1, h2, h3, h4, h5, h6, h7⟩⟩ := hok
      · subst hn0
        have hnil : cs = [] := List.eq_nil_of_length_eq_zero (by simpa using h0)
        subst hnil
        exact ⟨none, 0, [], by rw [hs1, h1], Nat.le_refl _, fun h => absurd h (by simp), hsub [] (by simp [AV.simL])⟩
      · refine ⟨_, cap, _, by rw [hs1, h1], h3, fun hl => ⟨_, rfl, hn k _ bl List.mem_cons_self (by rw [h1]; rfl), fun j cv hj => ?_⟩, hsub _ h7⟩
        rw [Go.Sk.add_none, Nat.zero_add, cell_of_row w bl j cur t (lo, hi) h2]
        rw [List.getElem?_take] at hj
        split at hj
        · simpa using hj
        · cases hj
  | @sl k off len m bk ds us xs ys r ro h hd hm hc q ih1 ih2 =>
    cases vs with
    | nil => simp [AV.simL] at hs
    | cons v vs =>
      simp only [AV.simL] at hs ⊢
      refine ⟨?_, ih2 hs.2 (fun k b hm => hk k b (List.mem_cons_of_mem _ (List.mem_append_right _ hm))) (fun k b c hm => hn k b c (List.mem_cons_of_mem _ (List.mem_append_right _ hm)))⟩
      have hs1 := hs.1
      have hsub := fun (cvs : List Value) (h : AV.simL ρ w O ds cvs) => ih1 h (fun k b hm => hk k b (List.mem_cons_of_mem _ (List.mem_append_left _ hm))) (fun k b c hm => hn k b c (List.mem_cons_of_mem _ (List.mem_append_left _ hm)))
      have hslot := @Sl.sl H k off len bk h
      obtain ⟨a, cap, cvs, h1, h2, h3, h4⟩ := hslot.sim hs1 (fun j b hj => by
        rw [lk_cons] at hj
        split at hj
        · rename_i e; cases hj; subst e; exact hk k bk List.mem_cons_self
        · simp [lk] at hj)
      simp only [AV.sim]
      have h5 := hsub (cvs.take m) (by rw [← hd]; exact simL_take m h3)
      refine ⟨a, cap, cvs.take m, h1, h2, fun hl => ?_, h5⟩
      have hl0 : 0 < len := by
        rcases Nat.eq_zero_or_pos len with h6 | h6
        · rw [hm h6] at hl; simp at hl
        · exact h6
      have hcl : 0 < cvs.length := by simp at hl; omega
      obtain ⟨ad, h6, h7⟩ := h4 hl0 (by rw [← simL_length h3]; exact hcl)
      refine ⟨ad, h6, ?_, fun j cv hj => h7 j cv (by
        rw [List.getElem?_take] at hj
        split at hj
        · exact hj
        · cases hj)⟩
      simp only [AV.sim] at hs1
      obtain ⟨a2, cap2, h8, _, h10⟩ := hs1
      rw [h1] at h8
      injection h8 with e1 e2 e3
      obtain ⟨bl, h11, h12⟩ := h10 hl0
      rw [← e1, h6] at h12
      injection h12 with h12
      rw [h12]
      exact hn k bk bl List.mem_cons_self h11
  | @p k off bk ds us xs ys r ro h hd hc q ih1 ih2 =>
    cases vs with
    | nil => simp [AV.simL] at hs
    | cons v vs =>
      simp only [AV.simL] at hs ⊢
      refine ⟨?_, ih2 hs.2 (fun k b hm => hk k b (List.mem_cons_of_mem _ (List.mem_append_right _ hm))) (fun k b c hm => hn k b c (List.mem_cons_of_mem _ (List.mem_append_right _ hm)))⟩
      have hs1 := hs.1
      have hsub := fun (cvs : List Value) (h : AV.simL ρ w O ds cvs) => ih1 h (fun k b hm => hk k b (List.mem_cons_of_mem _ (List.mem_append_left _ hm))) (fun k b c hm => hn k b c (List.mem_cons_of_mem _ (List.mem_append_left _ hm)))
      obtain ⟨ad, cvs, h1, h3, h4⟩ := (@Ptr.p H k off bk h).sim hs1 (fun j b hj => by
        rw [lk_cons] at hj
        split at hj
        · rename_i e; cases hj; subst e; exact hk k bk List.mem_cons_self
        · simp [lk] at hj)
      simp only [AV.sim]
      refine ⟨ad, cvs, h1, fun hl => ⟨?_, h4⟩, hsub cvs (by rw [← hd]; exact h3)⟩
      simp only [AV.sim] at hs1
      obtain ⟨bl, h11, h12⟩ := hs1
      rw [h1] at h12
      injection h12 with h12
      injection h12 with h12
      rw [h12]
      exact hn k bk bl List.mem_cons_self h11
  | @vs n ds us xs ys r ro hc q ih1 ih2 =>
    cases vs with
    | nil => simp [AV.simL] at hs
    | cons v vs =>
      simp only [AV.simL] at hs ⊢
      refine ⟨?_, ih2 hs.2 (fun k b hm => hk k b (List.mem_append_right _ hm)) (fun k b c hm => hn k b c (List.mem_append_right _ hm))⟩
      have hs1 := hs.1
      simp only [AV.sim] at hs1 ⊢
      obtain ⟨a, cap, cvs, h1, h2, h3, h4⟩ := hs1
      refine ⟨a, cap, cvs, h1, h2, fun hl => ?_, ih1 h4 (fun k b hm => hk k b (List.mem_append_left _ hm)) (fun k b c hm => hn k b c (List.mem_append_left _ hm))⟩
      obtain ⟨ad, h5, h6, h7⟩ := h3 hl
      exact ⟨ad, h5, fun h => h6 (hO _ h), h7⟩
  | nils q ih =>
    cases vs with
    | nil => simp [AV.simL] at hs
    | cons v vs =>
      simp only [AV.simL] at hs ⊢
      refine ⟨?_, ih hs.2 hk hn⟩
      have hs1 := hs.1
      simp only [AV.sim] at hs1 ⊢
      exact ⟨none, 0, [], hs1, Nat.le_refl _, fun h => absurd h (by simp), by simp [AV.simL]⟩
end
inductive View1 (H : List (Nat × Blk)) : AV → AV → List (Nat × Blk) → Prop
  | free {v : AV} (h : v.inS (fun _ => False)) : View1 H v v []
  | row {k n sz : Nat} {t : TypeId} {cs us : List AV} (h : lk H k = some (.row t sz n cs)) (hc : cs = us) (hk : AV.inSL (fun _ => False) us) : View1 H (.row k) (.vs n us) [(k, .row t sz n cs)]
  | sl {k off len m : Nat} {bk : Blk} {us : List AV} (h : lk H k = some bk) (hm : len = 0 → m = 0) (hd : (bk.cs.drop off).take m = us) (hk : AV.inSL (fun _ => False) us) : View1 H (.sl k off len) (.vs len us) [(k, bk)]
  | p {k off : Nat} {bk : Blk} {us : List AV} (h : lk H k = some bk) (hd : bk.cs.drop off = us) (hk : AV.inSL (fun _ => False) us) : View1 H (.p k off) (.rp us) [(k, bk)]
  | nils : View1 H .nils (.vs 0 []) []
theorem View.cons1 {H : List (Nat × Blk)} {x u : AV} {xs ys : List AV} {r ro : List (Nat × Blk)} (h : View1 H x u r) (t : View H xs ys ro) : View H (x :: xs) (u :: ys) (r ++ ro) := by
  cases h with
  | free h => exact .free h t
  | row h hc hk => subst hc; exact .row h (.same hk) t
  | sl h hm hd hk => exact .sl h hd hm (.same hk) t
  | p h hd hk => exact .p h hd (.same hk) t
  | nils => exact .nils t
theorem View1.sl1 {H : List (Nat × Blk)} {k off len : Nat} {bk : Blk} {us : List AV} (h : lk H k = some bk) (hd : (bk.cs.drop off).take len = us) (hk : AV.inSL (fun _ => False) us) : View1 H (.sl k off len) (.vs len us) [(k, bk)] :=
  .sl h (fun h => h) hd hk
theorem cut_I {k : IntKind} {ws : List Int} {m n : Nat} : ((I k ws).drop m).take n = I k ((ws.drop m).take n) := by simp [List.map_take, List.map_drop]
end Go.Sk
namespace Go.Sk
open Go.RowKit
inductive Hand (H : List (Nat × Blk)) (τ : Nat → Nat) : List AV → List AV → List (Nat × Blk) → Prop
  | view {xs ys : List AV} {ro : List (Nat × Blk)} (h : View H xs ys ro) : Hand H τ xs ys ro
  | own {x u : AV} {xs us : List AV} {ro : List (Nat × Blk)} (h : u.ren τ = x) (t : Hand H τ xs us ro) : Hand H τ (x :: xs) (u :: us) ro
  | one {x u : AV} {xs us : List AV} {r ro : List (Nat × Blk)} (h : View H [x] [u] r) (t : Hand H τ xs us ro) : Hand H τ (x :: xs) (u :: us) (r ++ ro)
section
variable {H : List (Nat × Blk)} {τ : Nat → Nat} {xs ys : List AV} {rr : List (Nat × Blk)}
theorem Hand.rom (h : Hand H τ xs ys rr) : ∀ k b, (k, b) ∈ rr → lk H k = some b := by
  induction h with
  | view h => exact h.rom
  | own _ _ ih => exact ih
  | one h _ ih =>
    intro k b hm
    rcases List.mem_append.1 hm with hm | hm
    · exact h.rom k b hm
    · exact ih k b hm
theorem Hand.bd (h : Hand H τ xs ys rr) {S : Nat → Prop} (hs : AV.inSL S xs) : AV.inSL (fun k => S (τ k)) ys := by
  induction h with
  | view h => exact inSL_mono (fun _ h => h.elim) _ h.keyless
  | own h _ ih =>
    simp only [AV.inSL] at hs ⊢
    rw [← h, inS_ren] at hs
    exact ⟨hs.1, ih hs.2⟩
  | one h _ ih =>
    simp only [AV.inSL] at hs ⊢
    have := h.keyless
    simp only [AV.inSL] at this
    exact ⟨inS_mono (fun _ h => h.elim) _ this.1, ih hs.2⟩
theorem Hand.sim (h : Hand H τ xs ys rr) {ρ : Nat → Value} {w : World} {O O' : Nat → Prop} {vs : List Value} (hs : AV.simL ρ w O xs vs) (hk : ∀ k b, (k, b) ∈ rr → b.ok ρ w O k)
    (hO : ∀ b, O' b → O b) (hn : ∀ k b c, (k, b) ∈ rr → blkOf (ρ k) = some c → ¬ O' c) : AV.simL (fun k => ρ (τ k)) w O' ys vs := by
  induction h generalizing vs with
  | view h => exact h.sim hs hk hO hn
  | own h _ ih =>
    cases vs with
    | nil => simp [AV.simL] at hs
    | cons v vs =>
      simp only [AV.simL] at hs ⊢
      rw [← h, sim_ren] at hs
      exact ⟨sim_mono (S := fun _ => True) (fun a v h1 h2 => ⟨h2, fun h3 => h1 (hO _ h3)⟩) (fun _ _ => rfl) _ _ (inS_true _) hs.1, ih hs.2 hk hn⟩
  | one h _ ih =>
    cases vs with
    | nil => simp [AV.simL] at hs
    | cons v vs =>
      simp only [AV.simL] at hs ⊢
      have h1 := h.sim (ρ' := fun k => ρ (τ k)) (vs := [v]) (by simp only [AV.simL, and_true]; exact hs.1) (fun k b hm => hk k b (List.mem_append_left _ hm)) hO (fun k b c hm => hn k b c (List.mem_append_left _ hm))
      simp only [AV.simL, and_true] at h1
      exact ⟨h1, ih hs.2 (fun k b hm => hk k b (List.mem_append_right _ hm)) (fun k b c hm => hn k b c (List.mem_append_right _ hm))⟩
end
theorem Blk.ok_ren {ρ : Nat → Value} {w : World} {O : Nat → Prop} {τ : Nat → Nat} {k : Nat} (b : Blk) : (b.ren τ).ok ρ w O (τ k) ↔ b.ok (fun k => ρ (τ k)) w O k := by
  cases b with
  | blk t cs => simp only [Blk.ren, Blk.ok, simL_ren]
  | row t sz n cs => simp only [Blk.ren, Blk.ok, renL_map, List.length_map]; simp only [← renL_map, simL_ren]
theorem Blk.ok_conv {ρ ρ' : Nat → Value} {w : World} {O O' : Nat → Prop} {k : Nat} (b : Blk) (hk : ρ' k = ρ k) (hc : ∀ vs, AV.simL ρ w O b.cs vs → AV.simL ρ' w O' b.cs vs) (h : b.ok ρ w O k) : b.ok ρ' w O' k := by
  cases b with
  | blk t cs =>
    obtain ⟨bl, cvs, h1, h2, h3⟩ := h
    exact ⟨bl, cvs, by rw [hk]; exact h1, h2, hc _ h3⟩
  | row t sz n cs =>
    obtain ⟨h0, h | ⟨bl, cap, cur, lo, hi, h1, h2, h3, h4, h5, h6, h7⟩⟩ := h
    · exact ⟨h0, .inl ⟨by rw [hk]; exact h.1, h.2⟩⟩
    · exact ⟨h0, .inr ⟨bl, cap, cur, lo, hi, by rw [hk]; exact h1, h2, h3, h4, h5, h6, hc _ h7⟩⟩
theorem lk_none_of {l : List (Nat × Blk)} {k : Nat} {b : Blk} (h : (k, b) ∈ l) : lk l k ≠ none := by
  induction l with
  | nil => simp at h
  | cons p r ih =>
    obtain ⟨k', b'⟩ := p
    rw [lk_cons]
    split
    · simp
    · rename_i hne
      rcases List.mem_cons.1 h with h | h
      · cases h; exact absurd rfl hne
      · exact ih h
open Classical in
theorem tri_call {P : Program} {F : Fence} {n : Nat} {o : Oper} {f : FuncId} {G pre : List (Nat × AV)} {us avs : List AV} {H ro rd wr rdc wrc : List (Nat × Blk)} {v v' : AV} {τ : Nat → Nat}
    (hF : ∀ f, F.fn f) (hdp : F.depth = none) (h : FnC P f G us rdc wrc v) (hnd : ∀ c, o.op ≠ .defer c)
    (he : ∀ (ρ : Nat → Value) (w : World) (O : Nat → Prop) (a : Act), (∀ t av, (t, av) ∈ pre → ∃ cv, slot a t = some cv ∧ av.sim ρ w O cv) →
      ∃ cargs, AV.simL ρ w O avs cargs ∧ (execOp a.eval o).run P w = .ok (.enter f cargs.toArray) w)
    (hav : ∀ S : Nat → Prop, (∀ t av, (t, av) ∈ pre → av.inS S) → AV.inSL S avs)
    (hG : ∀ t av, (t, av) ∈ G → (t, av) ∈ pre ∧ 1000000 ≤ t ∧ av.inS (fun _ => False))
    (hh : Hand H τ avs us ro) (hinj : ∀ p ∈ rdc ++ wrc, ∀ q ∈ rdc ++ wrc, τ p.1 = τ q.1 → p.1 = q.1)
    (hrd : rdc.map (renP τ) = rd) (hwr : wrc.map (renP τ) = wr) (hv : v.ren τ = v') (hdj : ∀ k, lk rd k ≠ none → lk ro k = none)
    (hvs : ro = [] ∨ (v.novs ∧ ∀ p ∈ wrc, AV.novsL p.2.cs)) : Tri P F n o pre ro rd wr v' := by
  subst hrd hwr hv
  have hinj1 : ∀ p ∈ rdc, ∀ q ∈ rdc, τ p.1 = τ q.1 → p.1 = q.1 := fun p hp q hq => hinj p (List.mem_append_left _ hp) q (List.mem_append_left _ hq)
  have hinj2 : ∀ p ∈ wrc, ∀ q ∈ wrc, τ p.1 = τ q.1 → p.1 = q.1 := fun p hp q hq => hinj p (List.mem_append_right _ hp) q (List.mem_append_right _ hq)
  have hinj3 : ∀ p ∈ wrc, ∀ q ∈ rdc, τ p.1 = τ q.1 → p.1 = q.1 := fun p hp q hq => hinj p (List.mem_append_right _ hp) q (List.mem_append_left _ hq)
  have hrolk : ∀ k b, (k, b) ∈ ro → lk ro k = some b := by
    intro k b hm
    obtain ⟨c, hc⟩ := Option.ne_none_iff_exists'.1 (lk_none_of hm)
    have h1 := hh.rom k b hm
    have h2 := hh.rom k c (lk_mem hc)
    rw [h1] at h2; cases h2; exact hc
  -- what is new under the callee's name is new under the caller's
  have hnewτ : ∀ k, lk wrc k ≠ none → lk rdc k = none → lk (wrc.map (renP τ)) (τ k) ≠ none ∧ lk (rdc.map (renP τ)) (τ k) = none := by
    intro k h1 h2
    obtain ⟨b, hb⟩ := Option.ne_none_iff_exists'.1 h1
    refine ⟨by rw [lk_ren hinj2 hb]; simp, ?_⟩
    cases hc : lk (rdc.map (renP τ)) (τ k) with
    | none => rfl
    | some c =>
      obtain ⟨k2, c2, h3, h4, _⟩ := lk_ren_inv hinj1 hc
      have := hinj3 _ (lk_mem hb) _ (lk_mem h3) h4.symm
      simp only at this
      subst this
      rw [h2] at h3; cases h3
  refine ⟨fun X ρ w a hp hk hX hwr S s1 s2 s3 s4 => ?_, fun S h1 h2 h3 h4 => ?_⟩
  · obtain ⟨cargs, hcs, hrun⟩ := he ρ w _ a hp
    have hown1 : ∀ b, owned (fun k => ρ (τ k)) (lk rdc) b ↔ owned ρ (lk (rdc.map (renP τ))) b := by
      intro b
      constructor
      · rintro ⟨k, c, h1, h2⟩
        exact ⟨τ k, _, lk_ren hinj1 h1, h2⟩
      · rintro ⟨j, c, h1, h2⟩
        obtain ⟨k, c', h3, rfl, rfl⟩ := lk_ren_inv hinj1 h1
        exact ⟨k, c', h3, h2⟩
    have hrdin : ∀ k c, lk (rdc.map (renP τ)) k = some c → lk (ro ++ rdc.map (renP τ)) k = some c := fun k c h => by rw [lk_append, hdj k (by rw [h]; simp)]; exact h
    have hroin : ∀ k c, lk ro k = some c → lk (ro ++ rdc.map (renP τ)) k = some c := fun k c h => by rw [lk_append, h]
    have hrdown : ∀ b, owned ρ (lk (rdc.map (renP τ))) b → owned ρ (lk (ro ++ rdc.map (renP τ))) b := fun b ⟨k, c, h1, h2⟩ => ⟨k, c, hrdin k c h1, h2⟩
    have hOO : ∀ b, (X b ∨ owned (fun k => ρ (τ k)) (lk rdc) b) → (X b ∨ owned ρ (lk (ro ++ rdc.map (renP τ))) b) := fun b hb => hb.imp id fun hb => hrdown b ((hown1 b).1 hb)
    have hroO : ∀ k b c, (k, b) ∈ ro → blkOf (ρ k) = some c → ¬ (X c ∨ owned (fun k => ρ (τ k)) (lk rdc) c) := by
      rintro k b c hm hb (hx | hx)
      · exact hk.apart c ⟨k, b, hroin k b (hrolk k b hm), hb⟩ hx
      · obtain ⟨k2, c2, h1, h2⟩ := (hown1 c).1 hx
        have := hk.dist k k2 c (by rw [hroin k b (hrolk k b hm)]; simp) (by rw [hrdin k2 c2 h1]; simp) hb h2
        subst this
        have := hdj k (by rw [h1]; simp)
        rw [hrolk k b hm] at this; cases this
    have hmw : ∀ (a : Addr) (v : Value), ¬ (X a.block ∨ owned ρ (lk (ro ++ rdc.map (renP τ))) a.block) → w.cell? a = some v → w.cell? a = some v ∧ ¬ (X a.block ∨ owned (fun k => ρ (τ k)) (lk rdc) a.block) :=
      fun a v h1 h2 => ⟨h2, fun h3 => h1 (hOO _ h3)⟩
    have hargs := hh.sim hcs (fun k b hm => hk.ok k b (hroin k b (hrolk k b hm))) hOO hroO
    have hokc : HOK X (fun k => ρ (τ k)) w (lk rdc) := by
      refine ⟨fun k bk hb => ?_, fun k k' b h1 h2 h3 h4 => ?_, fun b hb => hk.apart b (hrdown b ((hown1 b).1 hb))⟩
      · have := (Blk.ok_ren bk).1 (hk.ok _ _ (hrdin _ _ (lk_ren hinj1 hb)))
        exact Blk.ok_conv bk rfl (fun vs hvs => simL_mono (S := fun _ => True) hmw (fun _ _ => rfl) _ _ (inSL_true _) hvs) this
      · obtain ⟨c, hc⟩ := Option.ne_none_iff_exists'.1 h1
        obtain ⟨c', hc'⟩ := Option.ne_none_iff_exists'.1 h2
        have := hk.dist (τ k) (τ k') b (by rw [hrdin _ _ (lk_ren hinj1 hc)]; simp) (by rw [hrdin _ _ (lk_ren hinj1 hc')]; simp) h3 h4
        exact hinj1 _ (lk_mem hc) _ (lk_mem hc') this
    have hcall := h.sem { F with round := none } (n - 1) X (fun k => ρ (τ k)) w cargs hF hdp rfl (fun t av hm => by
      obtain ⟨g1, g2, g3⟩ := hG t av hm
      obtain ⟨cv, g4, g5⟩ := hp t av g1
      unfold slot at g4
      rw [if_neg (by omega)] at g4
      simp at g4; subst g4
      exact sim_mono (S := fun _ => False) hmw (fun _ h => h.elim) _ _ g3 g5) hargs hokc hX
    refine ⟨fun f _ => hF f, ?_⟩
    rw [Oper.semAt_eq _ _ _ hnd, hrun, Oper.uponIn_enter]
    refine ⟨fun hd => by rw [hdp] at hd; simp at hd, ?_⟩
    refine CallsIn.mono (F := F) hcall ?_
    rintro e w' ⟨ρc', cv, rfl, hρc, hfr, hok', hown', hv'⟩
    -- the caller's names behind the call
    let ρ' : Nat → Value := fun j => if hj : ∃ k, (lk wrc k ≠ none ∧ lk rdc k = none) ∧ τ k = j then ρc' (Classical.choose hj) else ρ j
    have A0 : ∀ k, lk wrc k ≠ none → lk rdc k = none → ρ' (τ k) = ρc' k := by
      intro k h1 h2
      have hj : ∃ k', (lk wrc k' ≠ none ∧ lk rdc k' = none) ∧ τ k' = τ k := ⟨k, ⟨h1, h2⟩, rfl⟩
      show (if hj : _ then _ else _) = _
      rw [dif_pos hj]
      have hsp := Classical.choose_spec hj
      obtain ⟨b, hb⟩ := Option.ne_none_iff_exists'.1 h1
      obtain ⟨b', hb'⟩ := Option.ne_none_iff_exists'.1 hsp.1.1
      have he := hinj2 _ (lk_mem hb') _ (lk_mem hb) hsp.2
      simp only at he
      rw [he]
    have A4 : ∀ j, (¬ ∃ k, (lk wrc k ≠ none ∧ lk rdc k = none) ∧ τ k = j) → ρ' j = ρ j := fun j hj => dif_neg hj
    have A2 : ∀ j, S j → ρ' j = ρ j := by
      intro j hj
      refine A4 j ?_
      rintro ⟨k, ⟨h1, h2⟩, rfl⟩
      obtain ⟨h3, h4⟩ := hnewτ k h1 h2
      exact s4 _ h3 h4 hj
    have A5 : ∀ j, lk (wrc.map (renP τ)) j = none ∨ lk (rdc.map (renP τ)) j ≠ none → ρ' j = ρ j := by
      intro j hj
      refine A4 j ?_
      rintro ⟨k, ⟨h1, h2⟩, rfl⟩
      obtain ⟨h3, h4⟩ := hnewτ k h1 h2
      rcases hj with hj | hj
      · exact h3 hj
      · exact hj h4
    have A1 : ∀ k, lk wrc k ≠ none → ρ' (τ k) = ρc' k := by
      intro k h1
      cases h2 : lk rdc k with
      | none => exact A0 k h1 h2
      | some c =>
        rw [hρc k (.inr (by rw [h2]; simp))]
        refine A5 _ (.inr (by rw [lk_ren hinj1 h2]; simp))
    have A3 : ∀ k, S (τ k) → ρ' (τ k) = ρc' k := by
      intro k hk'
      rw [A2 _ hk']
      refine (hρc k ?_).symm
      cases h1 : lk wrc k with
      | none => exact .inl rfl
      | some c =>
        refine .inr fun h2 => ?_
        obtain ⟨h3, h4⟩ := hnewτ k (by rw [h1]; simp) h2
        exact s4 _ h3 h4 hk'
    have hown2 : ∀ b, owned ρ' (lk (wrc.map (renP τ))) b ↔ owned ρc' (lk wrc) b := by
      intro b
      constructor
      · rintro ⟨j, c, h1, h2⟩
        obtain ⟨k, c', h3, rfl, rfl⟩ := lk_ren_inv hinj2 h1
        exact ⟨k, c', h3, by rw [← A1 k (by rw [h3]; simp)]; exact h2⟩
      · rintro ⟨k, c, h1, h2⟩
        exact ⟨τ k, _, lk_ren hinj2 h1, by rw [A1 k (by rw [h1]; simp)]; exact h2⟩
    have hroS : ∀ k b, lk ro k = some b → S k := fun k b hb => (s2 k b (lk_mem hb)).1
    have hcase : ∀ k b, lk (ro ++ wrc.map (renP τ)) k = some b → lk ro k = some b ∨ (lk ro k = none ∧ lk (wrc.map (renP τ)) k = some b) := by
      intro k b hb
      rw [lk_append] at hb
      cases hc : lk ro k with
      | some c => rw [hc] at hb; exact .inl hb
      | none => rw [hc] at hb; exact .inr ⟨rfl, hb⟩
    have hwrin : ∀ k b, lk (wrc.map (renP τ)) k = some b → lk (ro ++ wrc.map (renP τ)) k = some b := fun k b hb => by rw [lk_append, hwr k (by rw [hb]; simp)]; exact hb
    have hownA : ∀ b, owned ρ' (lk (ro ++ wrc.map (renP τ))) b → owned ρ (lk ro) b ∨ owned ρc' (lk wrc) b := by
      rintro b ⟨k, c, h1, h2⟩
      rcases hcase k c h1 with h3 | ⟨_, h3⟩
      · rw [A2 k (hroS k c h3)] at h2
        exact .inl ⟨k, c, h3, h2⟩
      · exact .inr ((hown2 b).1 ⟨k, c, h3, h2⟩)
    have hcnew : ∀ b, owned ρc' (lk wrc) b → owned ρ (lk (rdc.map (renP τ))) b ∨ w.heap.size ≤ b := fun b hb => (hown' b hb).imp (fun h => (hown1 b).1 h) id
    have hO'O : ∀ b, b < w.heap.size → (X b ∨ owned ρ' (lk (ro ++ wrc.map (renP τ))) b) → (X b ∨ owned ρ (lk (ro ++ rdc.map (renP τ))) b) := by
      rintro b hlt (hb | hb)
      · exact .inl hb
      · rcases hownA b hb with ⟨k, c, h1, h2⟩ | h1
        · exact .inr ⟨k, c, hroin k c h1, h2⟩
        · rcases hcnew b h1 with h2 | h2
          · exact .inr (hrdown b h2)
          · omega
    have hfr' : Fr w (owned ρ (lk (rdc.map (renP τ)))) w' := hfr.mono fun b hb => (hown1 b).1 hb
    have hwm : ∀ (x : Addr) (u : Value), ¬ (X x.block ∨ owned ρ (lk (ro ++ rdc.map (renP τ))) x.block) → w.cell? x = some u → w'.cell? x = some u ∧ ¬ (X x.block ∨ owned ρ' (lk (ro ++ wrc.map (renP τ))) x.block) :=
      fun x u h1 h2 => ⟨hfr'.cell (fun h3 => h1 (.inr (hrdown _ h3))) h2, fun h3 => h1 (hO'O _ (block_lt_of_cell h2) h3)⟩
    -- what the callee says, in the caller's names
    have hbdA := h.bd (fun k => S (τ k) ∨ lk wrc k ≠ none) (inSL_mono (fun _ h => .inl h) _ (hh.bd (hav S s1)))
      (fun k b hm => ⟨.inl ((s3 (τ k) (b.ren τ) (List.mem_map.2 ⟨(k, b), hm, rfl⟩)).1), by
        have := (s3 (τ k) (b.ren τ) (List.mem_map.2 ⟨(k, b), hm, rfl⟩)).2
        unfold Blk.inS at this ⊢
        rw [Blk.ren_cs, inSL_ren] at this
        exact inSL_mono (fun _ h => .inl h) _ this⟩) (fun k h1 _ => .inr h1)
    have hagree : ∀ k, (S (τ k) ∨ lk wrc k ≠ none) → (fun k => ρ' (τ k)) k = ρc' k := fun k hk' => hk'.elim (A3 k) (A1 k)
    have hOeq : ro = [] → ∀ b, (X b ∨ owned ρc' (lk wrc) b) ↔ (X b ∨ owned ρ' (lk (ro ++ wrc.map (renP τ))) b) := by
      intro hr b
      subst hr
      rw [List.nil_append, hown2 b]
    have hconv : ∀ (xs : List AV) (vs : List Value), AV.inSL (fun k => S (τ k) ∨ lk wrc k ≠ none) xs → (ro = [] ∨ AV.novsL xs) → AV.simL ρc' w' (fun b => X b ∨ owned ρc' (lk wrc) b) xs vs →
        AV.simL (fun k => ρ' (τ k)) w' (fun b => X b ∨ owned ρ' (lk (ro ++ wrc.map (renP τ))) b) xs vs := by
      intro xs vs h1 h2 h3
      have h4 := simL_mono (O' := fun b => X b ∨ owned ρc' (lk wrc) b) (w' := w') (fun a v h1 h2 => ⟨h2, h1⟩) hagree xs vs h1 h3
      rcases h2 with h2 | h2
      · rwa [show (fun b => X b ∨ owned ρc' (lk wrc) b) = (fun b => X b ∨ owned ρ' (lk (ro ++ wrc.map (renP τ))) b) from funext fun b => propext (hOeq h2 b)] at h4
      · exact (simL_novs xs vs h2).1 h4
    refine ⟨ρ', cv, rfl, A5, hfr', ⟨fun k bk hb => ?_, fun k k' b h1 h2 h3 h4 => ?_, fun b hb hx => ?_⟩, fun b hb => ?_, ?_⟩
    · rcases hcase k bk hb with h3 | ⟨_, h3⟩
      · have h4 := s2 k bk (lk_mem h3)
        refine Blk.ok_mono hwm A2 h4.1 (fun c h5 h6 => hfr'.block c h6 ?_) bk h4.2 (hk.ok k bk (hroin k bk h3))
        rintro ⟨k2, b2, h7, h8⟩
        have := hk.dist k k2 c (by rw [hroin k bk h3]; simp) (by rw [hrdin k2 b2 h7]; simp) h5 h8
        subst this
        have := hdj k (by rw [h7]; simp)
        rw [h3] at this; cases this
      · obtain ⟨k2, c, h4, rfl, rfl⟩ := lk_ren_inv hinj2 h3
        rw [Blk.ok_ren]
        refine Blk.ok_conv c (A1 k2 (by rw [h4]; simp)) (fun vs hvs' => hconv _ vs (hbdA.2 k2 c (lk_mem h4)).2 (hvs.imp id fun h => h.2 _ (lk_mem h4)) hvs') (hok'.ok k2 c h4)
    · obtain ⟨c, hc⟩ := Option.ne_none_iff_exists'.1 h1
      obtain ⟨c', hc'⟩ := Option.ne_none_iff_exists'.1 h2
      have mixed : ∀ k c b, lk ro k = some c → blkOf (ρ k) = some b → owned ρc' (lk wrc) b → False := by
        intro k c b g1 g2 g3
        rcases hcnew b g3 with ⟨k2, c2, g4, g5⟩ | g4
        · have := hk.dist k k2 b (by rw [hroin k c g1]; simp) (by rw [hrdin k2 c2 g4]; simp) g2 g5
          subst this
          have := hdj k (by rw [g4]; simp)
          rw [g1] at this; cases this
        · have := owned_lt hk ⟨k, c, hroin k c g1, g2⟩; omega
      rcases hcase k c hc with h5 | ⟨_, h5⟩ <;> rcases hcase k' c' hc' with h6 | ⟨_, h6⟩
      · rw [A2 k (hroS k c h5)] at h3
        rw [A2 k' (hroS k' c' h6)] at h4
        exact hk.dist k k' b (by rw [hroin k c h5]; simp) (by rw [hroin k' c' h6]; simp) h3 h4
      · rw [A2 k (hroS k c h5)] at h3
        exact (mixed k c b h5 h3 ((hown2 b).1 ⟨k', c', h6, h4⟩)).elim
      · rw [A2 k' (hroS k' c' h6)] at h4
        exact (mixed k' c' b h6 h4 ((hown2 b).1 ⟨k, c, h5, h3⟩)).elim
      · obtain ⟨k2, d, g1, rfl, rfl⟩ := lk_ren_inv hinj2 h5
        obtain ⟨k3, d', g2, rfl, rfl⟩ := lk_ren_inv hinj2 h6
        rw [A1 k2 (by rw [g1]; simp)] at h3
        rw [A1 k3 (by rw [g2]; simp)] at h4
        exact congrArg τ (hok'.dist k2 k3 b (by rw [g1]; simp) (by rw [g2]; simp) h3 h4)
    · rcases hownA b hb with ⟨k, c, h1, h2⟩ | h1
      · exact hk.apart b ⟨k, c, hroin k c h1, h2⟩ hx
      · exact hok'.apart b h1 hx
    · exact hcnew b ((hown2 b).1 hb)
    · rw [sim_ren]
      have := hconv [v] [cv] (by simp only [AV.inSL, and_true]; exact hbdA.1) (hvs.imp id fun h => by simp only [AV.novsL, and_true]; exact h.1) (by simp only [AV.simL, and_true]; exact hv')
      simpa only [AV.simL, and_true] using this
  · have := h.bd (fun k => S (τ k)) (hh.bd (hav S h1)) (fun k b hm => by
      have := h3 (τ k) (b.ren τ) (List.mem_map.2 ⟨(k, b), hm, rfl⟩)
      refine ⟨this.1, ?_⟩
      have h5 := this.2
      unfold Blk.inS at h5 ⊢
      rwa [Blk.ren_cs, inSL_ren] at h5) (fun k h5 h6 => by
        obtain ⟨h7, h8⟩ := hnewτ k h5 h6
        exact h4 _ h7 h8)
    refine ⟨(inS_ren τ v).2 this.1, fun k b hm => ?_⟩
    obtain ⟨⟨k2, c⟩, h5, h6⟩ := List.mem_map.1 hm
    simp only [renP, Prod.mk.injEq] at h6
    obtain ⟨rfl, rfl⟩ := h6
    have h7 := this.2 k2 c h5
    refine ⟨h7.1, ?_⟩
    unfold Blk.inS
    rw [Blk.ren_cs, inSL_ren]
    exact h7.2
end Go.Sk
namespace Go.Sk
open Go.RowKit
abbrev mkC (P : Program) (T N0 : Nat) (rd : List (Nat × Blk)) (F : Fence) (n : Nat) (X : Nat → Prop) (w : World) (ρ : Nat → Value) : Ctx :=
  { P, F, n, T, X, w0 := w, ρ0 := ρ, O0 := owned ρ (lk rd), fix := (· < N0) }
inductive Res1 (P : Program) (s : AS) : ResultVar → AV → Prop
  | tmp {t : Tmp} {v : AV} (h : lk s.E t = some v) (ht : Nat.blt t 1000000 = true := by rfl) : Res1 P s (.tmp t) v
  | cell {a : Tmp} {ty : TypeId} {av v : AV} {xs : List AV} {ro : List (Nat × Blk)} {b : Bool} {n : Nat} (h : lk s.E a = some av) (hp : Ptr s.H av xs ro) (hT : shp P ty = some (b, n)) (hu : unit b n xs v)
      (ht : Nat.blt a 1000000 = true := by rfl) : Res1 P s (.cell a ty) v
inductive ResL (P : Program) (s : AS) : List ResultVar → List AV → Prop
  | nil : ResL P s [] []
  | cons {r : ResultVar} {v : AV} {rs : List ResultVar} {vs : List AV} (h : Res1 P s r v) (t : ResL P s rs vs) : ResL P s (r :: rs) (v :: vs)
def tuAV : List AV → AV
  | [x] => x
  | xs => .tu xs
def resOne (tmps : Array Value) : ResultVar → Sem Value
  | .tmp t => pure (tmps.getD t undef)
  | .cell a t => do loadVar t (← asAddr (tmps.getD a undef))
theorem results_eq (fn : Func) (tmps : Array Value) : results fn tmps = (do let vs ← fn.results.mapM (resOne tmps); pure (if h : vs.size = 1 then vs[0] else .tuple vs)) := by
  unfold results
  congr 1
theorem Res1.run {P : Program} {s : AS} {r : ResultVar} {v : AV} (h : Res1 P s r v) {ρ : Nat → Value} {w : World} {O : Nat → Prop} {a : Act} (hE : EnvOK ρ w O (lk s.E) a) (hH : ∀ k b, lk s.H k = some b → b.ok ρ w O k) :
    ∃ cv, (resOne a.tmps r).run P w = .ok cv w ∧ v.sim ρ w O cv := by
  cases h with
  | @tmp t v h ht =>
    obtain ⟨cv, h1, h2⟩ := hE t v h
    have := slot_eval h1 (blt_lt ht)
    exact ⟨cv, by simp only [Act.eval] at this; simp [resOne, this], h2⟩
  | @cell c ty av v xs ro b n h hp hT hu ht =>
    obtain ⟨cv, h1, h2⟩ := hE c av h
    have h3 := slot_eval h1 (blt_lt ht)
    simp only [Act.eval] at h3
    obtain ⟨ad, cvs, h4, h5, h6⟩ := hp.sim h2 (fun k b hb => hH k b (hp.ro k b (lk_mem hb)))
    obtain ⟨h7, cv2, h8, h9⟩ := unit_sim hu h5
    refine ⟨cv2, ?_, h9⟩
    simp only [resOne, h3, h4, Sem.run_bind, asAddr, Sem.run_pure, Result.andThen_ok]
    exact run_loadVar hT w ad cvs h6 h7 cv2 h8
theorem ResL.run {P : Program} {s : AS} {ρ : Nat → Value} {w : World} {O : Nat → Prop} {a : Act} (hE : EnvOK ρ w O (lk s.E) a) (hH : ∀ k b, lk s.H k = some b → b.ok ρ w O k) :
    ∀ {rs : List ResultVar} {vs : List AV}, ResL P s rs vs → ∃ cvs, (rs.mapM (resOne a.tmps)).run P w = .ok cvs w ∧ AV.simL ρ w O vs cvs
  | _, _, .nil => ⟨[], rfl, by simp [AV.simL]⟩
  | _, _, .cons h t => by
    obtain ⟨cv, h1, h2⟩ := h.run hE hH
    obtain ⟨cvs, h3, h4⟩ := ResL.run hE hH t
    refine ⟨cv :: cvs, ?_, by simp only [AV.simL]; exact ⟨h2, h4⟩⟩
    rw [List.mapM_cons]
    simp only [Sem.run_bind, h1, Result.andThen_ok, h3, Sem.run_pure]
theorem results_run {P : Program} {s : AS} {fn : Func} {vs : List AV} (h : ResL P s fn.results.toList vs) {ρ : Nat → Value} {w : World} {O : Nat → Prop} {a : Act} (hE : EnvOK ρ w O (lk s.E) a) (hH : ∀ k b, lk s.H k = some b → b.ok ρ w O k) :
    ∃ cv, (results fn a.tmps).run P w = .ok cv w ∧ (tuAV vs).sim ρ w O cv := by
  obtain ⟨cvs, h1, h2⟩ := ResL.run hE hH h
  rw [results_eq, Array.mapM_eq_mapM_toList]
  have hl := simL_length h2
  match vs, cvs, h1, h2 with
  | [], [], h1, h2 =>
    refine ⟨.tuple #[], ?_, by simp only [tuAV, AV.sim]; exact ⟨[], rfl, by simp [AV.simL]⟩⟩
    simp only [Sem.run_bind, Sem.run_map, h1, Result.andThen_ok]
    rfl
  | [x], [c], h1, h2 =>
    simp only [AV.simL, and_true] at h2
    refine ⟨c, ?_, h2⟩
    simp only [Sem.run_bind, Sem.run_map, h1, Result.andThen_ok]
    rfl
  | x :: y :: r, c :: d :: q, h1, h2 =>
    refine ⟨.tuple (c :: d :: q).toArray, ?_, by simp only [tuAV, AV.sim]; exact ⟨_, rfl, h2⟩⟩
    simp only [Sem.run_bind, Sem.run_map, h1, Result.andThen_ok]
    simp
  | [], _ :: _, _, h2 => simp [AV.simL] at h2
  | [_], [], _, h2 => simp [AV.simL] at h2
  | [_], _ :: _ :: _, _, h2 => simp [AV.simL] at h2
  | _ :: _ :: _, [], _, h2 => simp [AV.simL] at h2
  | _ :: _ :: _, [_], _, h2 => simp [AV.simL] at h2
structure Fin (P : Program) (N0 : Nat) (rs : List ResultVar) (wr : List (Nat × Blk)) (v : AV) (s : AS) : Prop where
  fin : ∃ (τ : Nat → Nat) (vs : List AV), ResL P s rs vs ∧ v.ren τ = tuAV vs ∧ (∀ k b, lk wr k = some b → lk s.H (τ k) = some (b.ren τ)) ∧
    (∀ k k', lk wr k ≠ none → lk wr k' ≠ none → τ k = τ k' → k = k') ∧ (∀ k, k < N0 → τ k = k)
def Post (P : Program) (N0 : Nat) (rs : List ResultVar) (wr : List (Nat × Blk)) (v : AV) (e : Exit) (s : AS) : Prop :=
  match e with
  | .normal | .ret => Fin P N0 rs wr v s
  | _ => False
theorem fin0 {P : Program} {N0 : Nat} {rs : List ResultVar} {v : AV} {s : AS} {vs : List AV} (h : ResL P s rs vs) (hv : tuAV vs = v) (hk : v.inS (fun _ => False)) : Fin P N0 rs [] v s :=
  ⟨fun k => k, vs, h, by rw [ren_free _ _ hk, hv], fun k b hb => by simp [lk] at hb, fun k k' hk => by simp [lk] at hk, fun _ _ => rfl⟩
theorem Blk.ren_free {b : Blk} (h : b.inS (fun _ => False)) (τ : Nat → Nat) : b.ren τ = b := by
  cases b with
  | blk t cs => simp only [Blk.ren]; rw [renL_free τ cs h]
  | row t sz n cs => simp only [Blk.ren]; rw [renL_free τ cs h]
theorem fin1 {P : Program} {rs : List ResultVar} {v : AV} {s : AS} {vs : List AV} {k : Nat} {b : Blk} (h : ResL P s rs vs) (hv : tuAV vs = v.ren (fun _ => k)) (hb : lk s.H k = some b) (hk : b.inS (fun _ => False)) : Fin P 0 rs [(0, b)] v s := by
  refine ⟨fun _ => k, vs, h, hv.symm, fun j c hj => ?_, fun j j' hj hj' _ => ?_, fun j hj => absurd hj (Nat.not_lt_zero _)⟩
  · rw [lk_cons] at hj
    split at hj
    · cases hj
      rw [hb, Blk.ren_free hk]
    · simp [lk] at hj
  · rw [lk_cons] at hj hj'
    split at hj
    · split at hj'
      · rename_i h1 h2; rw [← h1, ← h2]
      · exact absurd rfl hj'
    · exact absurd rfl hj
def argE : Nat → List AV → List (Nat × AV)
  | _, [] => []
  | i, v :: vs => (i, v) :: argE (i + 1) vs
theorem lk_argE : ∀ (vs : List AV) (i t : Nat) (v : AV), lk (argE i vs) t = some v → i ≤ t ∧ vs[t - i]? = some v
  | [], _, _, _, h => by simp [argE, lk] at h
  | x :: xs, i, t, v, h => by
    rw [argE, lk_cons] at h
    split at h
    · rename_i e; subst e
      simp at h; subst h
      exact ⟨Nat.le_refl _, by simp⟩
    · obtain ⟨h1, h2⟩ := lk_argE xs (i + 1) t v h
      refine ⟨by omega, ?_⟩
      rw [show t - i = (t - (i + 1)) + 1 by omega]
      simpa using h2
theorem cell_putObj {w : World} {D : Nat} {o : Obj} (hD : w.heap[D]? = some (.deferred (some []))) {a : Addr} {v : Value} (h : w.cell? a = some v) : (w.putObj D o).cell? a = some v := by
  have hne : a.block ≠ D := by
    intro e
    unfold World.cell? at h
    rw [e, hD] at h
    cases h
  rw [World.cell?_of_block (World.putObj_heap_other hne)]; exact h
theorem StR.mark {C : Ctx} {N : Nat} {E : Env} {H : Heap} {ρ : Nat → Value} {a : Act} {w : World} {D : Nat} {ds : List Deferred} {o : Obj} (h : StR C N E H ρ a w) (hD : w.heap[D]? = some (.deferred (some []))) (h0 : C.w0.heap.size ≤ D)
    (hm : Marks C.w0 ds (w.putObj D o)) : StR C N E H ρ { a with defers := ds } (w.putObj D o) := by
  obtain ⟨⟨hE, hH, hX, hbE, hbH⟩, h1, h2, h3, h4, h5⟩ := h
  have hmw : ∀ {O : Nat → Prop} (x : Addr) (u : Value), ¬ O x.block → w.cell? x = some u → (w.putObj D o).cell? x = some u ∧ ¬ O x.block := fun x u g1 g2 => ⟨cell_putObj hD g2, g1⟩
  have hblk : ∀ (b : Nat) (c : Array Value) (t : TypeId) (f : Nat × Nat), w.heap[b]? = some (.cells c t f) → (w.putObj D o).heap[b]? = some (.cells c t f) := by
    intro b c t f hb
    rw [World.putObj_heap_other (fun e => by rw [e, hD] at hb; cases hb)]; exact hb
  refine ⟨⟨fun t av ht => ?_, ⟨fun k bk hk => ?_, hH.dist, hH.apart⟩, fun b hb => by rw [World.putObj_size]; exact hX b hb, hbE, hbH⟩, h1, ⟨hm, fun t ht he l r hr => ?_⟩, ⟨h3.os, h3.tape, h3.output, by rw [World.putObj_size]; exact h3.size, fun k hk hn => ?_⟩, h4, h5⟩
  · obtain ⟨cv, g1, g2⟩ := hE t av ht
    exact ⟨cv, g1, sim_mono (S := fun _ => True) hmw (fun _ _ => rfl) av cv (inS_true av) g2⟩
  · have g := hH.ok k bk hk
    cases bk with
    | blk t cs =>
      obtain ⟨bl, cvs, g1, g2, g3⟩ := g
      exact ⟨bl, cvs, g1, hblk _ _ _ _ g2, simL_mono (S := fun _ => True) hmw (fun _ _ => rfl) _ _ (inSL_true _) g3⟩
    | row t sz n cs =>
      obtain ⟨g0, g | ⟨bl, cap, cur, lo, hi, g1, g2, g3, g4, g5, g6, g7⟩⟩ := g
      · exact ⟨g0, .inl g⟩
      · exact ⟨g0, .inr ⟨bl, cap, cur, lo, hi, g1, hblk _ _ _ _ g2, g3, g4, g5, g6, simL_mono (S := fun _ => True) hmw (fun _ _ => rfl) _ _ (inSL_true _) g7⟩⟩
  · have g := h2.lp t ht he l r hr
    rw [World.putObj_heap_other (fun e => by rw [e, hD] at g; cases g)]; exact g
  · rw [World.putObj_heap_other (by omega)]; exact h3.block k hk hn
theorem leave_marks {C : Ctx} {N : Nat} {E : Env} {H : Heap} {ρ : Nat → Value} {fn : Func} {R : Ending → World → Prop} {tmps : Array Value} : ∀ (bs : List Nat) (w : World), bs.Nodup → (∀ D ∈ bs, C.w0.heap.size ≤ D ∧ w.heap[D]? = some (.deferred (some []))) →
    StR C N E H ρ { tmps, defers := bs.map (fun D => { target := .collected D, args := #[] }) } w → (∀ w2, StR C N E H ρ { tmps, defers := [] } w2 → LeavesIn C.F C.n C.P fn tmps R [] .returning w2) →
    LeavesInM C.F C.n C.P fn tmps R (bs.map (fun D => { target := .collected D, args := #[] })) .returning w
  | [], w, _, _, h, k => k w h
  | D :: bs, w, hn, hb, h, k => by
    obtain ⟨h1, h2⟩ := hb D List.mem_cons_self
    have hn' := List.nodup_cons.1 hn
    have hb' : ∀ D' ∈ bs, C.w0.heap.size ≤ D' ∧ (w.putObj D (.deferred none)).heap[D']? = some (.deferred (some [])) := fun D' hD' => by
      obtain ⟨g1, g2⟩ := hb D' (List.mem_cons_of_mem _ hD')
      exact ⟨g1, by rw [World.putObj_heap_other (fun e => hn'.1 (by rw [← e]; exact hD'))]; exact g2⟩
    refine ⟨by simp, .inl ⟨D, _, rfl, run_takeDeferred h2, leave_marks bs _ hn'.2 hb' ?_ k⟩⟩
    exact h.mark h2 h1 ⟨bs, hn'.2, rfl, hb'⟩
theorem FnC.introR {P : Program} {f : FuncId} {fn : Func} {c : Code} {T N0 : Nat} {G E : List (Nat × AV)} {args : List AV} {rd wr : List (Nat × Blk)} {v : AV} (hf : P.funcs[f]? = some fn) (hb : fn.body = some c)
    (hnm : (fn.name == "runtime.NumGoroutine") = false) (hmix : P.follows .mixedOrders = true) (hT : fn.ntmps = T) (hlen : Nat.ble args.length T = true) (hT6 : Nat.ble T 1000000 = true)
    (hG : ∀ t av, (t, av) ∈ G → 1000000 ≤ t ∧ av.inS (fun _ => False)) (hE : argE 0 args ++ G = E)
    (hargs : AV.inSL (· < N0) args) (hrd : ∀ k b, (k, b) ∈ rd → k < N0 ∧ b.inS (· < N0))
    (hbd : ∀ S : Nat → Prop, AV.inSL S args → (∀ k b, (k, b) ∈ rd → S k ∧ b.inS S) → (∀ k, lk wr k ≠ none → lk rd k = none → S k) → v.inS S ∧ ∀ k b, (k, b) ∈ wr → S k ∧ b.inS S)
    (walk : ∀ F n X w ρ, (mkC P T N0 rd F n X w ρ).Ok → F.round = none → W (mkC P T N0 rd F n X w ρ) c (Post P N0 fn.results.toList wr v) ⟨N0, E, rd⟩) : FnC P f G args rd wr v := by
  refine ⟨⟨fn, hf, hnm, by rw [hb]; rfl⟩, fun F n X ρ w cargs hF hd hr hGs has hok hX => ?_, hbd⟩
  have hl := simL_length has
  have hle := Nat.le_of_ble_eq_true hlen
  have hle6 := Nat.le_of_ble_eq_true hT6
  refine callsIn_of_wp_marks hf hb (hF f) ?_ hr
  subst hE
  have hst : St (mkC P T N0 rd F n X w ρ) ⟨N0, argE 0 args ++ G, rd⟩ { tmps := cargs.toArray ++ Array.replicate (fn.ntmps - cargs.toArray.size) undef, defers := [] } w := by
    refine ⟨ρ, ⟨⟨?_, hok, hX, ?_, ?_⟩, ?_, ⟨Marks.nil, fun _ _ _ _ _ h => by cases h⟩, Fr.refl _ _, fun b hb => .inl hb, fun k hk => ⟨hk, rfl⟩⟩⟩
    · intro t av ht
      simp only at ht
      rw [lk_append] at ht
      cases hc : lk (argE 0 args) t with
      | some av' =>
        rw [hc] at ht; simp at ht; subst ht
        obtain ⟨_, h2⟩ := lk_argE _ _ _ _ hc
        obtain ⟨cv, h3, h4⟩ := simL_get has h2
        refine ⟨cv, ?_, h4⟩
        have hlt := (List.getElem?_eq_some_iff.1 h3).1
        simp only [Nat.sub_zero] at h3 hlt
        unfold slot
        rw [if_pos (by omega)]
        rw [Array.getElem?_append_left (by simpa using hlt)]
        simpa using h3
      | none =>
        rw [hc] at ht
        have hm := lk_mem ht
        have hge := (hG t av hm).1
        exact ⟨_, by unfold slot; rw [if_neg (by omega)], hGs t av hm⟩
    · intro t av ht
      simp only at ht
      rw [lk_append] at ht
      cases hc : lk (argE 0 args) t with
      | some av' =>
        rw [hc] at ht; simp at ht; subst ht
        obtain ⟨_, h2⟩ := lk_argE _ _ _ _ hc
        exact inSL_iff.1 hargs _ (List.mem_of_getElem? h2)
      | none =>
        rw [hc] at ht
        exact inS_mono (fun _ h => h.elim) _ (hG t av (lk_mem ht)).2
    · exact fun k bk hk => hrd k bk (lk_mem hk)
    · simp only [Array.size_append, List.size_toArray, Array.size_replicate]; omega
  refine wpIn_mono (walk F n X w ρ ⟨hF, hd, hmix⟩ hr _ w hst) ?_
  rintro e a' w1 ⟨s', hq, ρ1, hst1⟩
  have key : Fin P N0 fn.results.toList wr v s' → ∀ w', StR (mkC P T N0 rd F n X w ρ) s'.N (lk s'.E) (lk s'.H) ρ1 { tmps := a'.tmps, defers := [] } w' → ∃ cv, (results fn a'.tmps).run P w' = .ok cv w' ∧
      ∃ ρ' cv', Ending.returned cv = .returned cv' ∧ (∀ k, lk wr k = none ∨ lk rd k ≠ none → ρ' k = ρ k) ∧ Fr w (owned ρ (lk rd)) w' ∧
        HOK X ρ' w' (lk wr) ∧ (∀ b, owned ρ' (lk wr) b → owned ρ (lk rd) b ∨ w.heap.size ≤ b) ∧ v.sim ρ' w' (fun b => X b ∨ owned ρ' (lk wr) b) cv' := by
    rintro ⟨τ, vs, hr', hv, hw, hinj, hτ⟩ w' ⟨h1, h2, h3, h4, h5, h6⟩
    obtain ⟨cv, g1, g2⟩ := results_run hr' h1.env h1.hok.ok
    refine ⟨cv, g1, ?_⟩
    rw [← hv, sim_ren] at g2
    -- the contract's names
    let ρ' : Nat → Value := fun k => if lk wr k = none ∨ lk rd k ≠ none then ρ k else ρ1 (τ k)
    have hfix : ∀ k, k < N0 → ρ1 (τ k) = ρ k := fun k hk => by rw [hτ k hk]; exact (h6 k hk).2
    have hρ' : ∀ k, lk wr k ≠ none → ρ' k = ρ1 (τ k) := by
      intro k hk
      show (if _ then _ else _) = _
      split
      · rename_i h
        rcases h with h | h
        · exact absurd h hk
        · obtain ⟨b, hb⟩ := Option.ne_none_iff_exists'.1 h
          exact (hfix k (hrd k b (lk_mem hb)).1).symm
      · rfl
    have hown : ∀ b, owned ρ' (lk wr) b → owned ρ1 (lk s'.H) b := by
      rintro b ⟨k, c, g3, g4⟩
      exact ⟨τ k, _, hw k c g3, by rw [← hρ' k (by rw [g3]; simp)]; exact g4⟩
    -- the keys of results and blocks
    have hA : ∀ k, (k < N0 ∨ lk wr k ≠ none) → ρ' k = ρ1 (τ k) := by
      rintro k (hk | hk)
      · show (if _ then _ else _) = _
        split
        · exact (hfix k hk).symm
        · rfl
      · exact hρ' k hk
    have hbdA := hbd (fun k => k < N0 ∨ lk wr k ≠ none) (inSL_mono (fun _ h => .inl h) _ hargs) (fun k b hm => ⟨.inl (hrd k b hm).1, inSL_mono (fun _ h => .inl h) _ (hrd k b hm).2⟩) (fun k g _ => .inr g)
    have hwm : ∀ (a : Addr) (u : Value), ¬ (X a.block ∨ owned ρ1 (lk s'.H) a.block) → w'.cell? a = some u → w'.cell? a = some u ∧ ¬ (X a.block ∨ owned ρ' (lk wr) a.block) :=
      fun a u g3 g4 => ⟨g4, fun g5 => g3 (g5.imp id (hown _))⟩
    refine ⟨ρ', cv, rfl, fun k hk => if_pos hk, h4, ⟨fun k bk hk => ?_, fun k k' b g3 g4 g5 g6 => ?_, fun b hb => h1.hok.apart b (hown b hb)⟩, fun b hb => h5 b (hown b hb), ?_⟩
    · have g3 := (Blk.ok_ren bk).1 (h1.hok.ok _ _ (hw k bk hk))
      exact Blk.ok_conv bk (hρ' k (by rw [hk]; simp)) (fun us hus => simL_mono hwm hA _ _ ((hbdA.2 k bk (lk_mem hk)).2) hus) g3
    · obtain ⟨c, hc⟩ := Option.ne_none_iff_exists'.1 g3
      obtain ⟨c', hc'⟩ := Option.ne_none_iff_exists'.1 g4
      rw [hρ' k g3] at g5
      rw [hρ' k' g4] at g6
      exact hinj k k' g3 g4 (h1.hok.dist _ _ b (by rw [hw k c hc]; simp) (by rw [hw k' c' hc']; simp) g5 g6)
    · exact sim_mono hwm hA _ _ hbdA.1 g2
  have lv : Fin P N0 fn.results.toList wr v s' → bodyPostM F n P fn (fun e w' => ∃ ρ' cv, e = .returned cv ∧ (∀ k, lk wr k = none ∨ lk rd k ≠ none → ρ' k = ρ k) ∧ Fr w (owned ρ (lk rd)) w' ∧
        HOK X ρ' w' (lk wr) ∧ (∀ b, owned ρ' (lk wr) b → owned ρ (lk rd) b ∨ w.heap.size ≤ b) ∧ v.sim ρ' w' (fun b => X b ∨ owned ρ' (lk wr) b) cv) .ret a' w1 := by
    intro hfin
    obtain ⟨bs, m1, m2, m3⟩ := hst1.dfr.marks
    show LeavesInM F n P fn a'.tmps _ a'.defers .returning w1
    rw [m2]
    refine leave_marks (C := mkC P T N0 rd F n X w ρ) bs w1 m1 m3 ?_ (fun w2 h2 => key hfin w2 h2)
    have e : ({ tmps := a'.tmps, defers := bs.map (fun D => { target := .collected D, args := #[] }) } : Act) = a' := by rw [← m2]
    rw [e]; exact hst1
  cases e with
  | normal => exact lv hq
  | ret => exact lv hq
  | _ => exact hq.elim
theorem FnC.intro {P : Program} {f : FuncId} {fn : Func} {c : Code} {T N0 : Nat} {G E : List (Nat × AV)} {args : List AV} {rd wr : List (Nat × Blk)} {v : AV} (hf : P.funcs[f]? = some fn) (hb : fn.body = some c)
    (hnm : (fn.name == "runtime.NumGoroutine") = false) (hmix : P.follows .mixedOrders = true) (hT : fn.ntmps = T) (hlen : Nat.ble args.length T = true) (hT6 : Nat.ble T 1000000 = true)
    (hG : ∀ t av, (t, av) ∈ G → 1000000 ≤ t ∧ av.inS (fun _ => False)) (hE : argE 0 args ++ G = E)
    (hargs : AV.inSL (· < N0) args) (hrd : ∀ k b, (k, b) ∈ rd → k < N0 ∧ b.inS (· < N0))
    (hbd : ∀ S : Nat → Prop, AV.inSL S args → (∀ k b, (k, b) ∈ rd → S k ∧ b.inS S) → (∀ k, lk wr k ≠ none → lk rd k = none → S k) → v.inS S ∧ ∀ k b, (k, b) ∈ wr → S k ∧ b.inS S)
    (walk : ∀ F n X w ρ, (mkC P T N0 rd F n X w ρ).Ok → W (mkC P T N0 rd F n X w ρ) c (Post P N0 fn.results.toList wr v) ⟨N0, E, rd⟩) : FnC P f G args rd wr v :=
  FnC.introR hf hb hnm hmix hT hlen hT6 hG hE hargs hrd hbd fun F n X w ρ h _ => walk F n X w ρ h
section
variable {C : Ctx} {N : Nat} {E : List (Nat × AV)} {H : List (Nat × Blk)} {d : Nat} {ty : TypeId} {ps : String} {af : Array Edge} {g : Option (Nat × Bool)}
def Glob (E G : List (Nat × AV)) : Prop := ∀ t av, (t, av) ∈ G → lk E t = some av ∧ 1000000 ≤ t ∧ av.inS (fun _ => False)
theorem glob_nil {E : List (Nat × AV)} : Glob E [] := fun _ _ h => by simp at h
theorem glob_cons {E G : List (Nat × AV)} {t : Nat} {av : AV} (h : lk E t = some av) (ht : Nat.ble 1000000 t = true) (hk : av.inS (fun _ => False)) (hg : Glob E G) : Glob E ((t, av) :: G) := by
  intro u v hm
  rcases List.mem_cons.1 hm with hm | hm
  · cases hm; exact ⟨h, Nat.le_of_ble_eq_true ht, hk⟩
  · exact hg u v hm
theorem run_call {P : Program} {f : FuncId} (he : Ent P f) {xs : Array Operand} {ts : Array TypeId} (a : Act) (w : World) (dst : Option Tmp) :
    (execOp a.eval ⟨dst, .call ⟨.value (.func f), xs, ts⟩, ty, ps, af, g⟩).run P w = .ok (.enter f (xs.map a.eval)) w := by
  simp only [execOp, resolve, Deferred.ofValue, Act.eval, Sem.run_bind, Sem.run_pure, Result.andThen_ok, invoke]
  simpa using he.run (xs.map a.eval) w
theorem run_callV {P : Program} {f : FuncId} (he : Ent P f) {xs : Array Operand} {ts : Array TypeId} {x : Operand} {caps : Array Value} (a : Act) (w : World) (dst : Option Tmp) (hx : a.eval x = .func (.func f) #[] caps) :
    (execOp a.eval ⟨dst, .call ⟨.value x, xs, ts⟩, ty, ps, af, g⟩).run P w = .ok (.enter f (xs.map a.eval ++ caps)) w := by
  simp only [execOp, resolve, hx, Deferred.ofValue, Sem.run_bind, Sem.run_pure, Result.andThen_ok, invoke]
  simpa using he.run (xs.map a.eval ++ caps) w
theorem eval_list (a : Act) (xs : Array Operand) : xs.map a.eval = (xs.toList.map a.eval).toArray := by apply Array.ext'; simp
section
variable {f : FuncId} {xs : Array Operand} {ts : Array TypeId} {avs us : List AV} {p G : List (Nat × AV)} {ro : List (Nat × Blk)} {v : AV}
theorem oc_call (hC : C.Ok) (hx : OpVL E xs.toList avs p) (hv : View H avs us ro) (hf : FnC C.P f G us [] [] v) (hg : Glob E G) (hk : v.inS (fun _ => False)) (hn : ro = [] ∨ v.novs)
    (hd : Nat.blt d C.T = true) (hd6 : Nat.blt d 1000000 = true) :
    OpC C ⟨N, E, H⟩ ⟨some d, .call ⟨.value (.func f), xs, ts⟩, ty, ps, af, g⟩ ⟨⟨some d, .call ⟨.value (.func f), xs, ts⟩, ty, ps, af, g⟩, false, p ++ G, ro, [], [], v⟩ ⟨N, (d, v) :: E, H⟩ := by
  have htri : Tri C.P C.F C.n ⟨some d, .call ⟨.value (.func f), xs, ts⟩, ty, ps, af, g⟩ (p ++ G) ro [] [] v :=
    tri_call (τ := fun k => k) hC.fn hC.depth hf (fun _ h => by cases h)
      (fun ρ w O a hp => ⟨_, hx.sim fun t v hm => hp t v (List.mem_append_left _ hm), by rw [run_call hf.ent a w, eval_list]⟩)
      (fun S hp => hx.bd fun t v hm => hp t v (List.mem_append_left _ hm))
      (fun t av hm => ⟨List.mem_append_right _ hm, (hg t av hm).2⟩) (.view hv) (by simp) rfl rfl (ren_free _ _ hk) (by simp [lk]) (hn.imp id fun h => ⟨h, by simp⟩)
  exact { op := rfl, skip := rfl, tri := htri, pre := fun t av hm => by
            rcases List.mem_append.1 hm with h | h
            · exact hx.pre t av h
            · exact (hg t av h).1
          ro := hv.rom, rd := by simp, dj := by simp [lk], new := by simp [lk], N := Nat.le_refl _,
          dst := fun t ht => by cases ht; exact ⟨blt_lt hd, blt_lt hd6⟩,
          E1 := fun t => setE_cons _ _ _ _, H1 := fun k => by simp [upd, lk] }
theorem oc_callN {b : Blk} {v' : AV} (hC : C.Ok) (hx : OpVL E xs.toList avs p) (hv : View H avs us ro) (hf : FnC C.P f G us [] [(0, b)] v) (hg : Glob E G) (hk : b.inS (fun _ => False)) (hv' : v.ren (fun _ => N) = v')
    (hn : ro = [] ∨ (v.novs ∧ AV.novsL b.cs)) (hd : Nat.blt d C.T = true) (hd6 : Nat.blt d 1000000 = true) :
    OpC C ⟨N, E, H⟩ ⟨some d, .call ⟨.value (.func f), xs, ts⟩, ty, ps, af, g⟩ ⟨⟨some d, .call ⟨.value (.func f), xs, ts⟩, ty, ps, af, g⟩, false, p ++ G, ro, [], [(N, b)], v'⟩ ⟨N + 1, (d, v') :: E, (N, b) :: H⟩ := by
  have htri : Tri C.P C.F C.n ⟨some d, .call ⟨.value (.func f), xs, ts⟩, ty, ps, af, g⟩ (p ++ G) ro [] [(N, b)] v' :=
    tri_call (τ := fun _ => N) hC.fn hC.depth hf (fun _ h => by cases h)
      (fun ρ w O a hp => ⟨_, hx.sim fun t v hm => hp t v (List.mem_append_left _ hm), by rw [run_call hf.ent a w, eval_list]⟩)
      (fun S hp => hx.bd fun t v hm => hp t v (List.mem_append_left _ hm))
      (fun t av hm => ⟨List.mem_append_right _ hm, (hg t av hm).2⟩) (.view hv) (by simp) rfl (by simp [renP, Blk.ren_free hk]) hv' (by simp [lk]) (hn.imp id fun h => ⟨h.1, by simp; exact h.2⟩)
  exact { op := rfl, skip := rfl, tri := htri, pre := fun t av hm => by
            rcases List.mem_append.1 hm with h | h
            · exact hx.pre t av h
            · exact (hg t av h).1
          ro := hv.rom, rd := by simp, dj := by simp [lk]
          new := fun k h1 _ => by
            simp only at h1
            rw [lk_cons] at h1
            split at h1
            · rename_i e; subst e; exact ⟨Nat.le_refl _, Nat.lt_succ_self _⟩
            · simp [lk] at h1
          N := Nat.le_succ _,
          dst := fun t ht => by cases ht; exact ⟨blt_lt hd, blt_lt hd6⟩,
          E1 := fun t => setE_cons _ _ _ _
          H1 := fun k => by
            simp only
            rw [lk_cons]
            unfold upd
            rw [lk_cons]
            split <;> simp [lk] }
end
end
end Go.Sk
namespace Go.Sk
open Go.RowKit
def Weak (C : Ctx) (s s2 : AS) : Prop := ∀ a w, St C s a w → St C s2 a w
theorem Weak.refl {C : Ctx} {s : AS} : Weak C s s := fun _ _ h => h
theorem W_weak {C : Ctx} {Q : Exit → AS → Prop} {s s2 : AS} {c : Code} (h : Weak C s s2) (hw : W C c Q s2) : W C c Q s := fun a w hs => hw a w (h a w hs)
def AV.known : AV → Bool
  | .un => false
  | _ => true
inductive WE (E : List (Nat × AV)) (τ : Nat → Nat) (N2 T : Nat) : List (Nat × AV) → Prop
  | nil : WE E τ N2 T []
  | cons {t : Nat} {av av' : AV} {r : List (Nat × AV)} (h : lk E t = some av') (he : av.ren τ = av') (hb : av.inS (· < N2)) (q : WE E τ N2 T r) (hk : av.known = true := by rfl) : WE E τ N2 T ((t, av) :: r)
  | un {t : Nat} {r : List (Nat × AV)} (ht : Nat.blt t T = true) (ht6 : Nat.blt t 1000000 = true) (q : WE E τ N2 T r) : WE E τ N2 T ((t, .un) :: r)
inductive WH (H : List (Nat × Blk)) (τ : Nat → Nat) (N2 : Nat) : List (Nat × Blk) → Prop
  | nil : WH H τ N2 []
  | cons {k : Nat} {b b' : Blk} {r : List (Nat × Blk)} (h : lk H (τ k) = some b') (he : b.ren τ = b') (hk : Nat.blt k N2 = true) (hb : b.inS (· < N2)) (q : WH H τ N2 r) : WH H τ N2 ((k, b) :: r)
theorem WE.spec {E E2 : List (Nat × AV)} {τ : Nat → Nat} {N2 T : Nat} (h : WE E τ N2 T E2) : ∀ t av, lk E2 t = some av → (lk E t = some (av.ren τ) ∨ av = .un) ∧ av.inS (· < N2) ∧ (av = .un → (t < T ∧ t < 1000000)) := by
  induction h with
  | nil => intro t av h; simp [lk] at h
  | cons h he hb q hk ih =>
    intro t av ht
    rw [lk_cons] at ht
    split at ht
    · rename_i e; subst e; simp at ht; subst ht
      exact ⟨.inl (by rw [he]; exact h), hb, fun e => by rw [e] at hk; cases hk⟩
    · exact ih t av ht
  | un ht1 ht2 q ih =>
    intro t av ht
    rw [lk_cons] at ht
    split at ht
    · rename_i e; subst e; simp at ht; subst ht
      exact ⟨.inr rfl, by simp [AV.inS], fun _ => ⟨blt_lt ht1, blt_lt ht2⟩⟩
    · exact ih t av ht
theorem WH.spec {H H2 : List (Nat × Blk)} {τ : Nat → Nat} {N2 : Nat} (h : WH H τ N2 H2) : ∀ k b, lk H2 k = some b → lk H (τ k) = some (b.ren τ) ∧ k < N2 ∧ b.inS (· < N2) := by
  induction h with
  | nil => intro k b h; simp [lk] at h
  | cons h he hk hb q ih =>
    intro k b hk'
    rw [lk_cons] at hk'
    split at hk'
    · rename_i e; subst e; simp at hk'; subst hk'
      exact ⟨by rw [he]; exact h, blt_lt hk, hb⟩
    · exact ih k b hk'
def memB (x : Nat) : List Nat → Bool
  | [] => false
  | y :: r => Nat.beq x y || memB x r
def nodupB : List Nat → Bool
  | [] => true
  | x :: r => !memB x r && nodupB r
theorem memB_iff {x : Nat} : ∀ {l : List Nat}, memB x l = true ↔ x ∈ l
  | [] => by simp [memB]
  | y :: r => by simp [memB, memB_iff]
theorem nodupB_inj {τ : Nat → Nat} : ∀ {l : List (Nat × Blk)}, nodupB (l.map fun p => τ p.1) = true → ∀ k k', lk l k ≠ none → lk l k' ≠ none → τ k = τ k' → k = k'
  | [], _, k, _, h, _, _ => by simp [lk] at h
  | (j, b) :: r, hn, k, k', h, h', he => by
    simp only [List.map_cons, nodupB, Bool.and_eq_true, Bool.not_eq_true', ← Bool.not_eq_true] at hn
    rw [memB_iff] at hn
    have hmem : ∀ k, lk r k ≠ none → τ k ∈ r.map fun p => τ p.1 := by
      intro k hk
      obtain ⟨c, hc⟩ := Option.ne_none_iff_exists'.1 hk
      exact List.mem_map.2 ⟨(k, c), lk_mem hc, rfl⟩
    rw [lk_cons] at h h'
    split at h <;> split at h'
    · rename_i h1 h2; rw [← h1, ← h2]
    · rename_i h1 h2; subst h1; exact absurd (by rw [he]; exact hmem k' h') hn.1
    · rename_i h1 h2; subst h2; exact absurd (by rw [← he]; exact hmem k h) hn.1
    · exact nodupB_inj hn.2 k k' h h' he
def fixB (τ : Nat → Nat) : Nat → Bool
  | 0 => true
  | n + 1 => Nat.beq (τ n) n && fixB τ n
theorem fixB_spec {τ : Nat → Nat} : ∀ {n : Nat}, fixB τ n = true → ∀ k, k < n → τ k = k
  | 0, _, k, hk => absurd hk (Nat.not_lt_zero k)
  | n + 1, h, k, hk => by
    simp only [fixB, Bool.and_eq_true, Nat.beq_eq] at h
    rcases Nat.lt_succ_iff_lt_or_eq.1 hk with hk | hk
    · exact fixB_spec h.2 k hk
    · subst hk; exact h.1
theorem weak {P : Program} {T N0 : Nat} {rd : List (Nat × Blk)} {F : Fence} {n : Nat} {X : Nat → Prop} {w : World} {ρ : Nat → Value} {N N2 : Nat} {E E2 : List (Nat × AV)} {H H2 : List (Nat × Blk)} (τ : Nat → Nat)
    (hE : WE E τ N2 T E2) (hH : WH H τ N2 H2) (hn : nodupB (H2.map fun p => τ p.1) = true) (hf : fixB τ N0 = true) (hN : Nat.ble N0 N2 = true) : Weak (mkC P T N0 rd F n X w ρ) ⟨N, E, H⟩ ⟨N2, E2, H2⟩ := by
  intro a w' hs
  refine Sub.st (τ := τ) (s := ⟨N, E, H⟩) ⟨fun t av ht => (hE.spec t av ht).1, fun k bk hk => ⟨_, (hH.spec k bk hk).1, by cases bk <;> rfl⟩, nodupB_inj hn, fun t av ht => (hE.spec t av ht).2.1,
    fun k bk hk => (hH.spec k bk hk).2, fun k hk => ⟨Nat.lt_of_lt_of_le hk (Nat.le_of_ble_eq_true hN), fixB_spec hf k hk⟩⟩ ?_ hs
  exact fun t ht => (hE.spec t .un ht).2.2 rfl
def blkQ (id : Nat) (Q : Exit → AS → Prop) : Exit → AS → Prop
  | .exit j, s => bif Nat.beq j id then Q .normal s else Q (.exit j) s
  | e, s => Q e s
theorem W_blk {C : Ctx} {Q : Exit → AS → Prop} {s : AS} {id : Nat} {c : Code} (h : W C c (blkQ id Q) s) : W C (.block id c) Q s := by
  refine W_block (W_mono h fun e s q => ?_)
  cases e with
  | exit j =>
    simp only [blkQ] at q ⊢
    by_cases hj : j = id
    · subst hj; simpa using q
    · have hb : Nat.beq j id = false := by rw [← Bool.not_eq_true, Nat.beq_eq]; exact hj
      rw [hb] at q
      rw [if_neg hj]; exact q
  | _ => exact q
theorem W_loopW {C : Ctx} {Q : Exit → AS → Prop} {s : AS} {c : Code} {β : Type} (I : β → AS) (R : β → Prop) (μ : β → Nat) (x0 : β) (h0 : R x0) (hw : Weak C s (I x0))
    (h : ∀ x, R x → W C c (thenQ (fun s' => ∃ y, R y ∧ Weak C s' (I y) ∧ μ y < μ x) Q) (I x)) : W C (.loop c) Q s := by
  intro a w hs
  refine wpIn_loop_ix (fun (x : { x // R x }) a w => St C (I x.1) a w) (fun x => μ x.1) (fun x a w hx => wpIn_mono (h x.1 x.2 a w hx) ?_) ⟨x0, h0⟩ a w (hw a w hs)
  rintro e a' w' ⟨s', q, r⟩
  cases e with
  | normal => obtain ⟨y, hR, hwk, hlt⟩ := q; exact ⟨⟨y, hR⟩, hwk a' w' r, hlt⟩
  | _ => exact ⟨s', q, r⟩
def WD (C : Ctx) (ops : Array Oper) (acc : List DStep) (l : List Oper) (Q : Exit → AS → Prop) (s : AS) : Prop := ∃ ds s2, RunT C ops s l ds s2 ∧ drawOK ops.toList (acc ++ ds) = true ∧ Q .normal s2
theorem W_drawD {C : Ctx} {Q : Exit → AS → Prop} {s : AS} {id : Nat} {ops : Array Oper} (hC : C.Ok) (h : WD C ops [] ops.toList Q s) : W C (.region id ops true) Q s := by
  obtain ⟨ds, s2, h1, h2, h3⟩ := h
  exact W_draw hC.fn hC.mixed h1 h2 h3
theorem WD_cons {C : Ctx} {ops : Array Oper} {acc : List DStep} {l : List Oper} {Q : Exit → AS → Prop} {s s1 : AS} {o : Oper} {d : DStep} (h : OpR C ops s o d s1) (n : WD C ops (acc ++ [d]) l Q s1) : WD C ops acc (o :: l) Q s := by
  obtain ⟨ds, s2, h1, h2, h3⟩ := n
  exact ⟨d :: ds, s2, .cons h h1, by rw [List.append_assoc] at h2; exact h2, h3⟩
theorem WD_nil {C : Ctx} {ops : Array Oper} {acc : List DStep} {Q : Exit → AS → Prop} {s : AS} (hk : drawOK ops.toList acc = true) (hq : Q .normal s) : WD C ops acc [] Q s :=
  ⟨[], s, .nil, by rw [List.append_nil]; exact hk, hq⟩
end Go.Sk
namespace Go.Sk
open Go.RowKit
theorem i64_add {a b : Int} (h : -9223372036854775808 ≤ a + b ∧ a + b ≤ 9223372036854775807) : binI .add .i64 a b = a + b := IntWalk.i64_in _ h
theorem i64_sub {a b : Int} (h : -9223372036854775808 ≤ a - b ∧ a - b ≤ 9223372036854775807) : binI .sub .i64 a b = a - b := IntWalk.i64_in _ h
theorem i64_mul {a b : Int} (h : -9223372036854775808 ≤ a * b ∧ a * b ≤ 9223372036854775807) : binI .mul .i64 a b = a * b := IntWalk.i64_in _ h
theorem i64_quo {a b : Int} (h0 : 0 ≤ a) (h1 : a ≤ 9223372036854775807) (hb : 0 < b) : binI .quo .i64 a b = a / b := by
  show IntKind.i64.wrap (a.tdiv b) = _
  rw [Int.tdiv_eq_ediv_of_nonneg h0]
  refine IntWalk.i64_in _ ⟨?_, ?_⟩
  · have := Int.ediv_nonneg h0 (Int.le_of_lt hb); omega
  · have := Int.ediv_le_self b h0; omega
theorem rem_nn {k : IntKind} {a b : Int} (h0 : 0 ≤ a) : binI .rem k a b = a % b := Int.tmod_eq_emod_of_nonneg h0
theorem i64_conv {n : Int} (h : -9223372036854775808 ≤ n ∧ n ≤ 9223372036854775807) : IntKind.i64.wrap n = n := IntWalk.i64_in _ h
theorem u8_conv {n : Int} (h : 0 ≤ n ∧ n ≤ 255) : IntKind.u8.wrap n = n := IntWalk.u8_in _ h
theorem u32_conv {n : Int} (h : 0 ≤ n ∧ n ≤ 4294967295) : IntKind.u32.wrap n = n := IntWalk.u32_in _ h
theorem u64_conv {n : Int} (h : 0 ≤ n ∧ n ≤ 18446744073709551615) : IntKind.u64.wrap n = n := IntWalk.u64_in _ h
theorem u8_wrap (n : Int) : IntKind.u8.wrap n = n % 256 := IntKind.wrap_u8 n
theorem u32_wrap (n : Int) : IntKind.u32.wrap n = n % 4294967296 := IntKind.wrap_u32 n
theorem u64_wrap (n : Int) : IntKind.u64.wrap n = n % 18446744073709551616 := IntKind.wrap_u64 n
theorem shl_n {k : IntKind} {a b : Int} {n : Nat} (hb : b = n) (hn : n ≤ k.bits) : binI .shl k a b = k.wrap (a * 2 ^ n) := by
  subst hb
  show k.wrap (a * 2 ^ (min (Int.toNat n) k.bits)) = _
  rw [Int.toNat_natCast, Nat.min_eq_left hn]
theorem shr_n {k : IntKind} {a b : Int} {n : Nat} (hb : b = n) (hn : n ≤ k.bits) : binI .shr k a b = a / 2 ^ n := by
  subst hb
  show a.fdiv (2 ^ (min (Int.toNat n) k.bits)) = _
  rw [Int.toNat_natCast, Nat.min_eq_left hn, Int.fdiv_eq_ediv_of_nonneg _ (Int.le_of_lt (Int.pow_pos (by decide)))]
theorem toNat_up {i : Int} (h : 0 ≤ i) : i = (i.toNat : Int) := by omega
theorem unit_c {xs : List AV} {v : AV} {n : Nat} (h : xs[0]? = some v) (hn : n ≤ xs.length) : unit false n xs v := ⟨hn, h⟩
theorem unit_I {k : IntKind} {ws : List Int} {m : Nat} (h : m < ws.length) : unit false 1 ((I k ws).drop m) (.i k (ws.getD m 0)) := by
  refine ⟨by simp; omega, ?_⟩
  simp [List.getElem?_drop, h]
theorem unit_get {xs : List AV} {m : Nat} {v : AV} (h : xs[m]? = some v) : unit false 1 (xs.drop m) v := by
  have := (List.getElem?_eq_some_iff.1 h).1
  refine ⟨by simp; omega, ?_⟩
  simpa [List.getElem?_drop] using h
theorem unit_all {k : IntKind} {ws : List Int} {n : Nat} (h : ws.length = n) : unit true n (I k ws) (.ag (I k ws)) := by
  subst h
  exact ⟨by simp, by rw [List.take_of_length_le (by simp)]; rfl⟩
theorem unit_blkI {t : TypeId} {k : IntKind} {ws : List Int} {n : Nat} (h : ws.length = n) : unit true n ((Blk.blk t (I k ws)).cs.drop 0) (.ag (I k ws)) := unit_all h
theorem unit_rowI {t : TypeId} {sz l : Nat} {k : IntKind} {ws : List Int} {m n : Nat} (h : m + n ≤ ws.length) : unit true n ((Blk.row t sz l (I k ws)).cs.drop m) (.ag (I k ((ws.drop m).take n))) :=
  ⟨by simp [Blk.cs]; omega, by simp [Blk.cs, List.map_take, List.map_drop]⟩
theorem unit_one {t : TypeId} {v : AV} {n : Nat} (h : n = 1) : unit false n ((Blk.blk t [v]).cs.drop 0) v := by subst h; exact ⟨by simp [Blk.cs], rfl⟩
theorem unit_agg {xs : List AV} {n : Nat} (h : xs.length = n) : unit true n xs (.ag xs) := by
  subst h
  exact ⟨Nat.le_refl _, by rw [List.take_length]; rfl⟩
theorem unit_takeI {k : IntKind} {ws : List Int} {m n : Nat} (h : m + n ≤ ws.length) : unit true n ((I k ws).drop m) (.ag (I k ((ws.drop m).take n))) :=
  ⟨by simp; omega, by simp [List.map_take, List.map_drop]⟩
theorem unit_takeI0 {k : IntKind} {ws : List Int} {n : Nat} (h : n ≤ ws.length) : unit true n (I k ws) (.ag (I k (ws.take n))) :=
  ⟨by simp; omega, by simp [List.map_take]⟩
theorem one_I {k : IntKind} {ws : List Int} : (I k ws).all AV.one = true := by simp [AV.one]
theorem one_takeI {k : IntKind} {ws : List Int} {m : Nat} : ((I k ws).take m).all AV.one = true := by
  rw [List.all_eq_true]; intro x hx
  have := List.mem_of_mem_take hx
  simp only [List.mem_map] at this
  obtain ⟨n, _, rfl⟩ := this; rfl
theorem flat_agI {k : IntKind} {ws : List Int} : (AV.ag (I k ws)).flat = true := one_I
theorem length_I {k : IntKind} {ws : List Int} : (I k ws).length = ws.length := by simp
theorem over_I {k : IntKind} {ws : List Int} {m : Nat} {v : Int} (h : m < ws.length) : over (I k ws) m [.i k v] = I k (ws.set m v) := by
  unfold over
  rw [List.set_eq_take_append_cons_drop, if_pos h]
  simp [List.map_take, List.map_drop]
theorem put_blkI {t : TypeId} {k : IntKind} {ws : List Int} {m : Nat} {v : Int} (h : m < ws.length) : (Blk.blk t (I k ws)).put m [.i k v] = .blk t (I k (ws.set m v)) := by simp only [Blk.put, over_I h]
theorem put_rowI {t : TypeId} {sz n : Nat} {k : IntKind} {ws : List Int} {m : Nat} {v : Int} (h : m < ws.length) : (Blk.row t sz n (I k ws)).put m [.i k v] = .row t sz n (I k (ws.set m v)) := by simp only [Blk.put, over_I h]
theorem ren_blkI {τ : Nat → Nat} {t : TypeId} {k : IntKind} {ws : List Int} : (Blk.blk t (I k ws)).ren τ = .blk t (I k ws) := by
  have h : (Blk.blk t (I k ws)).inS (fun _ => False) := inSL_I ws
  exact Blk.ren_free h τ
theorem ren_rowI {τ : Nat → Nat} {t : TypeId} {sz n : Nat} {k : IntKind} {ws : List Int} : (Blk.row t sz n (I k ws)).ren τ = .row t sz n (I k ws) := by
  have h : (Blk.row t sz n (I k ws)).inS (fun _ => False) := inSL_I ws
  exact Blk.ren_free h τ
theorem ren_agI {τ : Nat → Nat} {k : IntKind} {ws : List Int} : (AV.ag (I k ws)).ren τ = .ag (I k ws) := ren_free τ _ (inSL_I ws)
theorem ren_vsI {τ : Nat → Nat} {n : Nat} {k : IntKind} {ws : List Int} : (AV.vs n (I k ws)).ren τ = .vs n (I k ws) := ren_free τ _ (inSL_I ws)
theorem cells1 {v : AV} {w : AV} (h : v.cells = [w]) : v.cells.length = 1 := by rw [h]; rfl
theorem put_one {t : TypeId} {u v : AV} (h : v.cells = [v]) : (Blk.blk t [u]).put 0 v.cells = .blk t [v] := by rw [h]; rfl
theorem put_allI {t : TypeId} {k k' : IntKind} {us ws : List Int} (h : us.length = ws.length) : (Blk.blk t (I k us)).put 0 (AV.ag (I k' ws)).cells = .blk t (I k' ws) := by
  have : (I k us).length = (I k' ws).length := by simp [h]
  simp only [AV.cells, Blk.put, over, List.take_zero, List.nil_append, Nat.zero_add, ← this, List.drop_length, List.append_nil]
theorem put_all {t : TypeId} {cs ys : List AV} (h : cs.length = ys.length) : (Blk.blk t cs).put 0 ys = .blk t ys := by
  simp only [Blk.put, over, List.take_zero, List.nil_append, Nat.zero_add, ← h, List.drop_length, List.append_nil]
section
variable {C : Ctx} {N : Nat} {E : List (Nat × AV)} {H : List (Nat × Blk)} {d : Nat} {ty : TypeId} {ps : String} {af : Array Edge} {g : Option (Nat × Bool)} (hC : C.Ok)
include hC
theorem ox_cmp {op : BinOp} {x y : Operand} {k : IntKind} {a b : Int} {r : Bool} {p q : List (Nat × AV)} {xt yt : TypeId} (hop : isCmp op = true) (hx : OpV E x (.i k a) p) (hy : OpV E y (.i k b) q) (hr : cmpI op a b = r)
    (hd : Nat.blt d C.T = true) (hd6 : Nat.blt d 1000000 = true) :
    OpC C ⟨N, E, H⟩ ⟨some d, .binOp op xt x y yt, ty, ps, af, g⟩ ⟨⟨some d, .binOp op xt x y yt, ty, ps, af, g⟩, false, p ++ q, [], [], [], .b r⟩ ⟨N, (d, .b r) :: E, H⟩ := by
  subst hr; exact oc_cmp hC hop hx hy hd hd6
theorem ox_eqs {op : BinOp} {x y : Operand} {a b : ByteArray} {r : Bool} {p q : List (Nat × AV)} {xt yt : TypeId} (hop : op = .eql ∨ op = .neq) (hx : OpV E x (.s a) p) (hy : OpV E y (.s b) q) (hr : (if op = .eql then decide (a = b) else decide (a ≠ b)) = r)
    (hd : Nat.blt d C.T = true) (hd6 : Nat.blt d 1000000 = true) :
    OpC C ⟨N, E, H⟩ ⟨some d, .binOp op xt x y yt, ty, ps, af, g⟩ ⟨⟨some d, .binOp op xt x y yt, ty, ps, af, g⟩, false, p ++ q, [], [], [], .b r⟩ ⟨N, (d, .b r) :: E, H⟩ := by
  subst hr; exact oc_eqs hC hop hx hy hd hd6
theorem ox_pick {c x y : Operand} {b : Bool} {v u r : AV} {pc px py : List (Nat × AV)} (hc : OpV E c (.b b) pc) (hx : OpV E x v px) (hy : OpV E y u py) (hr : (bif b then v else u) = r)
    (hd : Nat.blt d C.T = true) (hd6 : Nat.blt d 1000000 = true) :
    OpC C ⟨N, E, H⟩ ⟨some d, .pick c x y, ty, ps, af, g⟩ ⟨⟨some d, .pick c x y, ty, ps, af, g⟩, false, pc ++ (px ++ py), [], [], [], r⟩ ⟨N, (d, r) :: E, H⟩ := by
  subst hr; exact oc_pick hC hc hx hy hd hd6
theorem ox_len {x : Operand} {av : AV} {n : Nat} {r : Int} {xs : List AV} {p : List (Nat × AV)} {ro : List (Nat × Blk)} {t e : TypeId} (hx : OpV E x av p) (hs : Sl H av n xs ro) (hT : C.P.underlying t = some (.slice e)) (hr : (n : Int) = r) (hd : Nat.blt d C.T = true) (hd6 : Nat.blt d 1000000 = true) :
    OpC C ⟨N, E, H⟩ ⟨some d, .call ⟨.builtin .len, #[x], #[t]⟩, ty, ps, af, g⟩ ⟨⟨some d, .call ⟨.builtin .len, #[x], #[t]⟩, ty, ps, af, g⟩, false, p, ro, [], [], .i .i64 r⟩ ⟨N, (d, .i .i64 r) :: E, H⟩ := by
  subst hr; exact oc_len hC hx hs hT hd hd6
theorem ox_max {x y : Operand} {k : IntKind} {m n r : Int} {p q : List (Nat × AV)} {ts : Array TypeId} (hx : OpV E x (.i k m) p) (hy : OpV E y (.i k n) q) (hr : max m n = r) (hd : Nat.blt d C.T = true) (hd6 : Nat.blt d 1000000 = true) :
    OpC C ⟨N, E, H⟩ ⟨some d, .call ⟨.builtin .max, #[x, y], ts⟩, ty, ps, af, g⟩ ⟨⟨some d, .call ⟨.builtin .max, #[x, y], ts⟩, ty, ps, af, g⟩, false, p ++ q, [], [], [], .i k r⟩ ⟨N, (d, .i k r) :: E, H⟩ := by
  subst hr; exact oc_max hC hx hy hd hd6
theorem ox_min {x y : Operand} {k : IntKind} {m n r : Int} {p q : List (Nat × AV)} {ts : Array TypeId} (hx : OpV E x (.i k m) p) (hy : OpV E y (.i k n) q) (hr : min m n = r) (hd : Nat.blt d C.T = true) (hd6 : Nat.blt d 1000000 = true) :
    OpC C ⟨N, E, H⟩ ⟨some d, .call ⟨.builtin .min, #[x, y], ts⟩, ty, ps, af, g⟩ ⟨⟨some d, .call ⟨.builtin .min, #[x, y], ts⟩, ty, ps, af, g⟩, false, p ++ q, [], [], [], .i k r⟩ ⟨N, (d, .i k r) :: E, H⟩ := by
  subst hr; exact oc_min hC hx hy hd hd6
theorem ox_indexA {x y : Operand} {av u : AV} {p q : List (Nat × AV)} {t : TypeId} {n sz j m : Nat} {k : IntKind} {i : Int} (hx : OpV E x av p) (hy : OpV E y (.i k i) q) (hT : idx C.P t = some (some n, sz))
    (hi : i = (j : Int)) (hj : j < n) (hm : j * sz = m) (hu : IxP av m u) (hd : Nat.blt d C.T = true) (hd6 : Nat.blt d 1000000 = true) :
    OpC C ⟨N, E, H⟩ ⟨some d, .indexAddr t x y, ty, ps, af, g⟩ ⟨⟨some d, .indexAddr t x y, ty, ps, af, g⟩, false, p ++ q, [], [], [], u⟩ ⟨N, (d, u) :: E, H⟩ := by
  subst hi hm
  exact oc_indexA hC hx hy hT (by omega) (by omega) (by rw [Int.toNat_natCast]; exact hu) hd hd6
theorem ox_indexS {x y : Operand} {av u : AV} {p q : List (Nat × AV)} {ro : List (Nat × Blk)} {t : TypeId} {n sz j m : Nat} {k : IntKind} {i : Int} (hx : OpV E x av p) (hy : OpV E y (.i k i) q) (hT : idx C.P t = some (none, sz))
    (hi : i = (j : Int)) (hm : j * sz = m) (hu : IxS H av n m u ro) (hj : j < n) (hd : Nat.blt d C.T = true) (hd6 : Nat.blt d 1000000 = true) :
    OpC C ⟨N, E, H⟩ ⟨some d, .indexAddr t x y, ty, ps, af, g⟩ ⟨⟨some d, .indexAddr t x y, ty, ps, af, g⟩, false, p ++ q, ro, [], [], u⟩ ⟨N, (d, u) :: E, H⟩ := by
  subst hi hm
  exact oc_indexS hC hx hy hT (by rw [Int.toNat_natCast]; exact hu) (by omega) (by omega) hd hd6
theorem ox_index {x y : Operand} {xs : List AV} {v : AV} {p q : List (Nat × AV)} {t : TypeId} {n sz j m : Nat} {b : Bool} {k : IntKind} {i : Int} (hx : OpV E x (.ag xs) p) (hy : OpV E y (.i k i) q) (hT : elt C.P t = some (n, b, sz))
    (hi : i = (j : Int)) (hj : j < n) (hm : j * sz = m) (hle : m + sz ≤ xs.length) (hu : unit b sz (xs.drop m) v) (hd : Nat.blt d C.T = true) (hd6 : Nat.blt d 1000000 = true) :
    OpC C ⟨N, E, H⟩ ⟨some d, .index t x y, ty, ps, af, g⟩ ⟨⟨some d, .index t x y, ty, ps, af, g⟩, false, p ++ q, [], [], [], v⟩ ⟨N, (d, v) :: E, H⟩ := by
  subst hi hm
  exact oc_index hC hx hy hT (by omega) (by omega) (by rw [Int.toNat_natCast]; exact hle) (by rw [Int.toNat_natCast]; exact hu) hd hd6
omit hC in
theorem ox_store {dst : Option Tmp} {t : TypeId} {x y : Operand} {k off : Nat} {v : AV} {p q : List (Nat × AV)} {bk bk' : Blk} {H' : List (Nat × Blk)} {b : Bool} {n : Nat} (hC : C.Ok) (hx : OpV E x (.p k off) p) (hy : OpV E y v q)
    (hk : lk H k = some bk) (hT : shp C.P t = some (b, n)) (hf : v.flat = true) (hn : v.cells.length = n) (hle : off + n ≤ bk.cs.length) (hput : bk.put off v.cells = bk') (hH : SetK H k bk' H') (hdst : dst = none) :
    OpC C ⟨N, E, H⟩ ⟨dst, .store t x y, ty, ps, af, g⟩ ⟨⟨dst, .store t x y, ty, ps, af, g⟩, false, p ++ q, [], [(k, bk)], [(k, bk')], .un⟩ ⟨N, E, H'⟩ := by
  subst hput; exact oc_store hC hx hy hk hT hf hn hle hH hdst
omit hC in
theorem ox_append {x y : Operand} {t e : TypeId} {n m n' sz by_ : Nat} {dv av : AV} {cs xs cs' zs : List AV} {p q : List (Nat × AV)} {ro rd : List (Nat × Blk)} {H' : List (Nat × Blk)} (hC : C.Ok)
    (hx : OpV E x dv p) (hy : OpV E y av q) (hk : AppD H e sz N dv n cs rd H') (hs : Sl H av m xs ro) (hro : ∀ k b, (k, b) ∈ rd → lk ro k = none)
    (hu : C.P.underlying t = some (.slice e)) (hsz : C.P.cellsOf e = sz) (hby : (C.P.info? e).map (·.bytes) = some by_) (hz : zeroAV C.P e = some zs) (hzl : zs.length = sz) (h0 : 0 < sz) (hml : m * sz ≤ xs.length)
    (hone : (xs.take (m * sz)).all AV.one = true) (hn : n + m = n') (hcs : cs ++ xs.take (m * sz) = cs') (hmax : n' ≤ maxLen) (hb : n' * by_ ≤ 140737488355328) (hd : Nat.blt d C.T = true) (hd6 : Nat.blt d 1000000 = true) :
    OpC C ⟨N, E, H⟩ ⟨some d, .call ⟨.builtin .append, #[x, y], #[t, t]⟩, ty, ps, af, g⟩ ⟨⟨some d, .call ⟨.builtin .append, #[x, y], #[t, t]⟩, ty, ps, af, g⟩, false, p ++ q, ro, rd, [(N, .row e sz n' cs')], .row N⟩
      ⟨N + 1, (d, .row N) :: E, (N, .row e sz n' cs') :: H'⟩ := by
  subst hn hcs; exact oc_append hC hx hy hk hs hro hu hsz hby hz hzl h0 hml hone hmax hb hd hd6
omit hC in
theorem ox_build {t : TypeId} {parts : Array (Nat × Operand)} {vs zs out out' : List AV} {p : List (Nat × AV)} (hC : C.Ok) (hx : OpVL E (parts.toList.map (·.2)) vs p) (hz : zeroAV C.P t = some zs)
    (hs : bldOK C.P t = true) (hf : fillAV (placesOf C.P t) zs ((parts.toList.map (·.1)).zip vs) = some out) (ho : out = out') (hd : Nat.blt d C.T = true) (hd6 : Nat.blt d 1000000 = true) :
    OpC C ⟨N, E, H⟩ ⟨some d, .build t parts, ty, ps, af, g⟩ ⟨⟨some d, .build t parts, ty, ps, af, g⟩, false, p, [], [], [], .ag out'⟩ ⟨N, (d, .ag out') :: E, H⟩ := by
  subst ho; exact oc_build hC hx hz hs hf hd hd6
omit hC in
theorem ox_alloc {t : TypeId} {cs cs' : List AV} (hC : C.Ok) (hz : zeroAV C.P t = some cs) (hc : cs = cs') (hd : Nat.blt d C.T = true) (hd6 : Nat.blt d 1000000 = true) :
    OpC C ⟨N, E, H⟩ ⟨some d, .alloc t, ty, ps, af, g⟩ ⟨⟨some d, .alloc t, ty, ps, af, g⟩, false, [], [], [], [(N, .blk t cs')], .p N 0⟩ ⟨N + 1, (d, .p N 0) :: E, (N, .blk t cs') :: H⟩ := by
  subst hc; exact oc_alloc hC hz hd hd6
omit hC in
theorem ox_make {t e : TypeId} {x y : Operand} {sz n : Nat} {k k' : IntKind} {a b : Int} {zs cs' : List AV} {p q : List (Nat × AV)} {by_ : Nat} (hC : C.Ok) (hx : OpV E x (.i k a) p) (hy : OpV E y (.i k' b) q) (ha : a = n) (hb : b = n)
    (hu : C.P.underlying t = some (.slice e)) (hsz : C.P.cellsOf e = sz) (hby : (C.P.info? e).map (·.bytes) = some by_) (hz : zeroAV C.P e = some zs) (hzl : 0 < zs.length) (hn : n ≤ maxLen) (hbn : by_ * n ≤ 2 ^ 48) (hc : zerosAV zs (n * sz) = cs')
    (hd : Nat.blt d C.T = true) (hd6 : Nat.blt d 1000000 = true) :
    OpC C ⟨N, E, H⟩ ⟨some d, .makeSlice t x y, ty, ps, af, g⟩ ⟨⟨some d, .makeSlice t x y, ty, ps, af, g⟩, false, p ++ q, [], [], [(N, .row e sz n cs')], .row N⟩ ⟨N + 1, (d, .row N) :: E, (N, .row e sz n cs') :: H⟩ := by
  subst hc; exact oc_make hC hx hy ha hb hu hsz hby hz hzl hn hbn hd hd6
omit hC in
theorem ox_cutS {x : Operand} {lo hi : Option Operand} {av u u' : AV} {p q r : List (Nat × AV)} {ro : List (Nat × Blk)} {t : TypeId} {n sz l h : Nat} (hC : C.Ok) (hx : OpV E x av p) (hlo : OptV E 0 lo l q) (hhi : OptV E n hi h r) (hT : idx C.P t = some (none, sz))
    (hu : CutS H av sz n l h u ro) (h1 : l ≤ h) (h2 : h ≤ n) (hu' : u = u') (hd : Nat.blt d C.T = true) (hd6 : Nat.blt d 1000000 = true) :
    OpC C ⟨N, E, H⟩ ⟨some d, .slice t x lo hi none, ty, ps, af, g⟩ ⟨⟨some d, .slice t x lo hi none, ty, ps, af, g⟩, false, p ++ (q ++ r), ro, [], [], u'⟩ ⟨N, (d, u') :: E, H⟩ := by
  subst hu'; exact oc_cutS hC hx hlo hhi hT hu h1 h2 hd hd6
omit hC in
theorem ox_cutA {x : Operand} {lo hi : Option Operand} {av u u' : AV} {p q r : List (Nat × AV)} {t : TypeId} {m sz l h : Nat} (hC : C.Ok) (hx : OpV E x av p) (hlo : OptV E 0 lo l q) (hhi : OptV E m hi h r) (hT : idx C.P t = some (some m, sz))
    (h1 : l ≤ h) (h2 : h ≤ m) (hu : CutA av sz l h u) (hu' : u = u') (hd : Nat.blt d C.T = true) (hd6 : Nat.blt d 1000000 = true) :
    OpC C ⟨N, E, H⟩ ⟨some d, .slice t x lo hi none, ty, ps, af, g⟩ ⟨⟨some d, .slice t x lo hi none, ty, ps, af, g⟩, false, p ++ (q ++ r), [], [], [], u'⟩ ⟨N, (d, u') :: E, H⟩ := by
  subst hu'; exact oc_cutA hC hx hlo hhi hT h1 h2 hu hd hd6
end
theorem pick_t {v u : AV} : (bif true then v else u) = v := rfl
theorem pick_f {v u : AV} : (bif false then v else u) = u := rfl
theorem cells_ag {xs : List AV} : (AV.ag xs).cells = xs := rfl
theorem hro_nil {rd : List (Nat × Blk)} : ∀ k b, (k, b) ∈ rd → lk ([] : List (Nat × Blk)) k = none := fun _ _ _ => rfl
theorem hro_one {k : Nat} {b : Blk} {ro : List (Nat × Blk)} (h : lk ro k = none) : ∀ j c, (j, c) ∈ [(k, b)] → lk ro j = none := by
  intro j c hm
  simp only [List.mem_singleton, Prod.mk.injEq] at hm
  rw [hm.1]; exact h
theorem lss_t {a b : Int} (h : cmpI .lss a b = true) : a < b := by simpa [cmpI] using h
theorem lss_f {a b : Int} (h : cmpI .lss a b = false) : b ≤ a := by simpa [cmpI] using h
theorem gtr_t {a b : Int} (h : cmpI .gtr a b = true) : b < a := by simpa [cmpI] using h
theorem gtr_f {a b : Int} (h : cmpI .gtr a b = false) : a ≤ b := by simpa [cmpI] using h
theorem geq_t {a b : Int} (h : cmpI .geq a b = true) : b ≤ a := by simpa [cmpI] using h
theorem geq_f {a b : Int} (h : cmpI .geq a b = false) : a < b := by simpa [cmpI] using h
theorem eql_t {a b : Int} (h : cmpI .eql a b = true) : a = b := by simpa [cmpI] using h
theorem eql_f {a b : Int} (h : cmpI .eql a b = false) : a ≠ b := by simpa [cmpI] using h
theorem neq_t {a b : Int} (h : cmpI .neq a b = true) : a ≠ b := by simpa [cmpI] using h
theorem neq_f {a b : Int} (h : cmpI .neq a b = false) : a = b := by simpa [cmpI] using h
theorem fill_seq : ∀ (vs pre zs : List AV) (_hz : zs.length = vs.length) (_hv : vs.all AV.one = true),
    fillAV (fun j => some (j * 1, 1)) (pre ++ zs) ((List.range' pre.length vs.length).zip vs) = some (pre ++ vs)
  | [], pre, zs, hz, _ => by
    have : zs = [] := List.eq_nil_of_length_eq_zero (by simpa using hz)
    subst this; simp [fillAV]
  | v :: vs, pre, zs, hz, hv => by
    cases zs with
    | nil => simp at hz
    | cons z zs =>
      simp only [List.all_cons, Bool.and_eq_true] at hv
      rw [List.length_cons, List.range'_succ, List.zip_cons_cons]
      have hc : v.cells = [v] := by
        cases v <;> simp_all [AV.cells, AV.one]
      have hfl : v.flat = true := by
        cases v <;> simp_all [AV.flat, AV.one]
      unfold fillAV
      have hle : Nat.ble (pre.length * 1 + 1) (pre ++ z :: zs).length = true := by
        rw [Nat.ble_eq]; simp
      simp only [hc, hfl, hle, List.length_cons, List.length_nil, Nat.zero_add, decide_true, Bool.and_self, if_true]
      have e : ([v].zipIdx).foldl (fun cs (x : AV × Nat) => cs.set (pre.length * 1 + x.2) x.1) (pre ++ z :: zs) = (pre ++ [v]) ++ zs := by
        simp
      rw [e]
      have := fill_seq vs (pre ++ [v]) zs (by simpa using hz) hv.2
      simpa using this
section
variable {C : Ctx} {N : Nat} {E : List (Nat × AV)} {H : List (Nat × Blk)} {d : Nat} {ty : TypeId} {ps : String} {af : Array Edge} {g : Option (Nat × Bool)}
theorem fill_lit {zs vs : List AV} {n : Nat} {ks : List Nat} (hk : ks = List.range' 0 n) (hl : vs.length = n) (hv : vs.all AV.one = true) : fillAV (fun j => some (j * 1, 1)) (zerosAV zs (n * 1)) (ks.zip vs) = some vs := by
  have := fill_seq vs [] (zerosAV zs (n * 1)) (by simp [zerosAV, hl]) hv
  subst hk
  rw [← hl]
  rw [← hl] at this
  simpa using this
theorem ox_lit {t e : TypeId} {n : Nat} {parts : Array (Nat × Operand)} {vs zs : List AV} {p : List (Nat × AV)} (hC : C.Ok) (hx : OpVL E (parts.toList.map (·.2)) vs p) (hu : C.P.underlying t = some (.slice e)) (hsz : C.P.cellsOf e = 1)
    (hz : zeroAV C.P e = some zs) (hzl : zs.length = 1) (hn : n ≤ 2 ^ 24) (hks : parts.toList.map (·.1) = List.range' 0 n) (hl : vs.length = n) (hv : vs.all AV.one = true) (hd : Nat.blt d C.T = true) (hd6 : Nat.blt d 1000000 = true) :
    OpC C ⟨N, E, H⟩ ⟨some d, .buildSlice t n parts, ty, ps, af, g⟩ ⟨⟨some d, .buildSlice t n parts, ty, ps, af, g⟩, false, p, [], [], [], .vs n vs⟩ ⟨N, (d, .vs n vs) :: E, H⟩ :=
  oc_lit hC hx hu hsz hz (by omega) (by omega) (fill_lit hks hl hv) hd hd6
theorem ox_litR {t e : TypeId} {n : Nat} {parts : Array (Nat × Operand)} {vs zs : List AV} {p : List (Nat × AV)} (hC : C.Ok) (hx : OpVL E (parts.toList.map (·.2)) vs p) (hu : C.P.underlying t = some (.slice e)) (hsz : C.P.cellsOf e = 1)
    (hz : zeroAV C.P e = some zs) (hzl : zs.length = 1) (hn : n ≤ 2 ^ 24) (hks : parts.toList.map (·.1) = List.range' 0 n) (hl : vs.length = n) (hv : vs.all AV.one = true) (hd : Nat.blt d C.T = true) (hd6 : Nat.blt d 1000000 = true) :
    OpC C ⟨N, E, H⟩ ⟨some d, .buildSlice t n parts, ty, ps, af, g⟩ ⟨⟨some d, .buildSlice t n parts, ty, ps, af, g⟩, false, p, [], [], [(N, .row e 1 n vs)], .row N⟩ ⟨N + 1, (d, .row N) :: E, (N, .row e 1 n vs) :: H⟩ :=
  oc_litR hC hx hu hsz hz (by omega) (by omega) (by simp only [maxLen]; omega) (fill_lit hks hl hv) hd hd6
theorem ox_arr {t e : TypeId} {n : Nat} {parts : Array (Nat × Operand)} {vs zs : List AV} {p : List (Nat × AV)} (hC : C.Ok) (hx : OpVL E (parts.toList.map (·.2)) vs p) (hu : C.P.underlying t = some (.array n e)) (hsz : C.P.cellsOf e = 1) (hz : zeroAV C.P t = some zs) (hzl : zs.length = n)
    (hs : bldOK C.P t = true) (hks : parts.toList.map (·.1) = List.range' 0 n) (hl : vs.length = n) (hv : vs.all AV.one = true) (hd : Nat.blt d C.T = true) (hd6 : Nat.blt d 1000000 = true) :
    OpC C ⟨N, E, H⟩ ⟨some d, .build t parts, ty, ps, af, g⟩ ⟨⟨some d, .build t parts, ty, ps, af, g⟩, false, p, [], [], [], .ag vs⟩ ⟨N, (d, .ag vs) :: E, H⟩ := by
  refine oc_build hC hx hz hs ?_ hd hd6
  rw [placesOf_array hu, hsz, hks]
  have := fill_seq vs [] zs (by rw [hzl, hl]) hv
  rw [hl] at this
  simpa using this
theorem ox_box {t : TypeId} {x : Operand} {v : AV} {cs : List AV} {p : List (Nat × AV)} (hC : C.Ok) (hx : OpV E x v p) (hf : v.flat = true) (hc : v.cells = cs) (hd : Nat.blt d C.T = true) (hd6 : Nat.blt d 1000000 = true) :
    OpC C ⟨N, E, H⟩ ⟨some d, .box t x, ty, ps, af, g⟩ ⟨⟨some d, .box t x, ty, ps, af, g⟩, false, p, [], [], [(N, .blk t cs)], .p N 0⟩ ⟨N + 1, (d, .p N 0) :: E, (N, .blk t cs) :: H⟩ := by
  subst hc; exact oc_box hC hx hf hd hd6
end
theorem cut_vsI {k : IntKind} {ws : List Int} {l h : Nat} : AV.vs (h - l) (((I k ws).drop (l * 1)).take ((h - l) * 1)) = .vs (h - l) (I k ((ws.drop l).take (h - l))) := by
  simp [List.map_take, List.map_drop]
theorem zeros_I {k : IntKind} {n : Nat} : zerosAV [.i k 0] (n * 1) = I k (List.replicate n 0) := by
  unfold zerosAV
  simp only [Nat.mul_one, List.length_cons, List.length_nil, Nat.zero_add, Nat.mod_one, List.getD_cons_zero, List.map_replicate]
  apply List.ext_getElem?
  intro j
  simp [List.getElem?_map, List.getElem?_replicate]
  split <;> simp_all
theorem app_I {k : IntKind} {us ws : List Int} {m : Nat} (h : ws.length = m) : I k us ++ (I k ws).take (m * 1) = I k (us ++ ws) := by
  rw [Nat.mul_one, List.take_of_length_le (by simp [h])]
  exact List.map_append.symm
end Go.Sk
namespace Go.Sk
open Go.RowKit
theorem weak_nil {C : Ctx} {N : Nat} {E : List (Nat × AV)} {H : List (Nat × Blk)} {t : Nat} {e : TypeId} {sz : Nat} (hE : lk E t = some .nils) : Weak C ⟨N, E, H⟩ ⟨N + 1, (t, .row N) :: E, (N, .row e sz 0 []) :: H⟩ := by
  rintro a w ⟨ρ, ⟨hEn, hH, hX, hbE, hbH⟩, h1, h2, h3, h4, h5⟩
  have hne : ∀ k, k < N → upd1 ρ N (.slice none 0 0) k = ρ k := fun k hk => upd1_ne (by omega)
  have hkey : ∀ k b, lk H k = some b → k < N := fun k b hk => (hbH k b hk).1
  have hown : ∀ b, owned (upd1 ρ N (.slice none 0 0)) (lk ((N, .row e sz 0 []) :: H)) b ↔ owned ρ (lk H) b := by
    intro b
    constructor
    · rintro ⟨k, c, hk, hb⟩
      rw [lk_cons] at hk
      split at hk
      · rename_i he; subst he; rw [upd1_eq] at hb; simp [blkOf] at hb
      · rw [hne k (hkey k c hk)] at hb; exact ⟨k, c, hk, hb⟩
    · rintro ⟨k, c, hk, hb⟩
      have := hkey k c hk
      exact ⟨k, c, by rw [lk_cons, if_neg (by omega)]; exact hk, by rw [hne k this]; exact hb⟩
  have hO : (fun b => C.X b ∨ owned (upd1 ρ N (.slice none 0 0)) (lk ((N, .row e sz 0 []) :: H)) b) = (fun b => C.X b ∨ owned ρ (lk H) b) := funext fun b => by rw [hown b]
  have hconv : ∀ (x : AV) (v : Value), x.inS (· < N) → x.sim ρ w (fun b => C.X b ∨ owned ρ (lk H) b) v → x.sim (upd1 ρ N (.slice none 0 0)) w (fun b => C.X b ∨ owned ρ (lk H) b) v :=
    fun x v hx hs => sim_mono (S := (· < N)) (fun a v h1 h2 => ⟨h2, h1⟩) hne x v hx hs
  refine ⟨upd1 ρ N (.slice none 0 0), ⟨?_, ⟨?_, ?_, ?_⟩, hX, ?_, ?_⟩, h1, h2.cons (fun h => by cases h), h3, fun b hb => h4 b ((hown b).1 hb), fun k hk => ⟨Nat.lt_succ_of_lt (h5 k hk).1, by rw [hne k (h5 k hk).1]; exact (h5 k hk).2⟩⟩
  · intro u av hu
    simp only at hu
    rw [hO]
    rw [lk_cons] at hu
    split at hu
    · rename_i he; subst he
      simp at hu; subst hu
      obtain ⟨cv, h6, h7⟩ := hEn _ _ hE
      simp only [AV.sim] at h7
      exact ⟨cv, h6, by simp only [AV.sim]; exact ⟨by rw [h7, upd1_eq], none, 0, 0, h7⟩⟩
    · obtain ⟨cv, h6, h7⟩ := hEn u av hu
      exact ⟨cv, h6, hconv av cv (hbE u av hu) h7⟩
  · intro k bk hk
    rw [hO]
    simp only at hk
    rw [lk_cons] at hk
    split at hk
    · rename_i he; subst he; simp at hk; subst hk
      exact ⟨by simp, .inl ⟨upd1_eq, rfl⟩⟩
    · have hlt := hkey k bk hk
      exact Blk.ok_conv bk (hne k hlt) (fun vs hvs => simL_mono (S := (· < N)) (fun a v h1 h2 => ⟨h2, h1⟩) hne _ _ (hbH k bk hk).2 hvs) (hH.ok k bk hk)
  · intro k k' b hk hk' hb hb'
    simp only at hk hk'
    rw [lk_cons] at hk hk'
    split at hk
    · rename_i he; subst he; rw [upd1_eq] at hb; simp [blkOf] at hb
    · split at hk'
      · rename_i he; subst he; rw [upd1_eq] at hb'; simp [blkOf] at hb'
      · obtain ⟨c, hc⟩ := Option.ne_none_iff_exists'.1 hk
        obtain ⟨c', hc'⟩ := Option.ne_none_iff_exists'.1 hk'
        rw [hne k (hkey k c hc)] at hb
        rw [hne k' (hkey k' c' hc')] at hb'
        exact hH.dist k k' b hk hk' hb hb'
  · exact fun b hb => hH.apart b ((hown b).1 hb)
  · intro u av hu
    simp only at hu ⊢
    rw [lk_cons] at hu
    split at hu
    · simp at hu; subst hu; simp [AV.inS]
    · exact inS_mono (fun k hk => Nat.lt_succ_of_lt hk) _ (hbE u av hu)
  · intro k bk hk
    simp only at hk ⊢
    rw [lk_cons] at hk
    split at hk
    · rename_i he; subst he; simp at hk; subst hk
      exact ⟨Nat.lt_succ_self _, by simp [Blk.inS, Blk.cs, AV.inSL]⟩
    · exact ⟨Nat.lt_succ_of_lt (hbH k bk hk).1, inSL_mono (fun k hk => Nat.lt_succ_of_lt hk) _ (hbH k bk hk).2⟩
theorem weak_sl {C : Ctx} {N : Nat} {E : List (Nat × AV)} {H : List (Nat × Blk)} {t k : Nat} {e : TypeId} {sz n : Nat} {cs : List AV} (hE : lk E t = some (.row k)) (hH : lk H k = some (.row e sz n cs)) : Weak C ⟨N, E, H⟩ ⟨N, (t, .sl k 0 n) :: E, H⟩ := by
  rintro a w ⟨ρ, ⟨hEn, hHk, hX, hbE, hbH⟩, h1, h2, h3, h4, h5⟩
  refine ⟨ρ, ⟨?_, hHk, hX, ?_, hbH⟩, h1, h2.cons (fun h => by cases h), h3, h4, h5⟩
  · intro u av hu
    simp only at hu
    rw [lk_cons] at hu
    split at hu
    · rename_i he; subst he
      simp at hu; subst hu
      obtain ⟨cv, h6, h7⟩ := hEn _ _ hE
      simp only [AV.sim] at h7
      obtain ⟨h7, _⟩ := h7
      refine ⟨cv, h6, ?_⟩
      simp only [AV.sim]
      obtain ⟨_, ⟨h8, h9⟩ | ⟨bl, cap, cur, lo, hi, h8, h9, h10, _⟩⟩ := hHk.ok k _ hH
      · exact ⟨none, 0, by rw [h7, h8, h9], by omega, fun h => by omega⟩
      · exact ⟨_, cap, by rw [h7, h8], h10, fun _ => ⟨bl, by rw [h8]; rfl, rfl⟩⟩
    · exact hEn u av hu
  · intro u av hu
    simp only at hu ⊢
    rw [lk_cons] at hu
    split at hu
    · simp at hu; subst hu; simp only [AV.inS]; exact (hbH k _ hH).1
    · exact hbE u av hu
def joinQ {β : Type} (C : Ctx) (J : β → AS) (R : β → Prop) (Q : Exit → AS → Prop) : Exit → AS → Prop
  | .normal, s => ∃ z, R z ∧ Weak C s (J z)
  | e, s => Q e s
theorem W_join {C : Ctx} {Q : Exit → AS → Prop} {s : AS} {c : Code} {β : Type} (J : β → AS) (R : β → Prop) (h : W C c (joinQ C J R Q) s) (k : ∀ z, R z → Q .normal (J z)) : W C c Q s := by
  intro a w hs
  refine wpIn_mono (h a w hs) ?_
  rintro e a' w' ⟨s', q, r⟩
  cases e with
  | normal => obtain ⟨z, hR, hwk⟩ := q; exact ⟨J z, k z hR, hwk a' w' r⟩
  | _ => exact ⟨s', q, r⟩
theorem Weak.trans {C : Ctx} {s s1 s2 : AS} (h : Weak C s s1) (k : Weak C s1 s2) : Weak C s s2 := fun a w hs => k a w (h a w hs)
theorem weak_vs {C : Ctx} {N : Nat} {E : List (Nat × AV)} {H H' : List (Nat × Blk)} {t k : Nat} {e : TypeId} {sz n : Nat} {cs : List AV} (hE : lk E t = some (.row k)) (hH : lk H k = some (.row e sz n cs)) (hd : DelK H k H') (hk : AV.inSL (fun _ => False) cs) :
    Weak C ⟨N, E, H⟩ ⟨N, (t, .vs n cs) :: E, H'⟩ := by
  rintro a w ⟨ρ, ⟨hEn, hHk, hX, hbE, hbH⟩, h1, h2, h3, h4, h5⟩
  have hlk : ∀ j b, lk H' j = some b → lk H j = some b ∧ j ≠ k := by
    intro j b hj
    rw [hd.spec j] at hj
    split at hj
    · cases hj
    · rename_i hne; exact ⟨hj, fun e => hne e.symm⟩
  have hown : ∀ b, owned ρ (lk H') b → owned ρ (lk H) b := fun b ⟨j, c, hj, hb⟩ => ⟨j, c, (hlk j c hj).1, hb⟩
  have hmw : ∀ (x : Addr) (u : Value), ¬ (C.X x.block ∨ owned ρ (lk H) x.block) → w.cell? x = some u → w.cell? x = some u ∧ ¬ (C.X x.block ∨ owned ρ (lk H') x.block) := fun x u g1 g2 => ⟨g2, fun g3 => g1 (g3.imp id (hown _))⟩
  refine ⟨ρ, ⟨?_, ⟨?_, ?_, fun b hb => hHk.apart b (hown b hb)⟩, hX, ?_, fun j b hj => hbH j b (hlk j b hj).1⟩, h1, h2.cons (fun h => by cases h), h3, fun b hb => h4 b (hown b hb), h5⟩
  · intro u av hu
    simp only at hu
    rw [lk_cons] at hu
    split at hu
    · rename_i he; subst he
      simp at hu; subst hu
      obtain ⟨cv, h6, h7⟩ := hEn _ _ hE
      simp only [AV.sim] at h7
      obtain ⟨h7, _⟩ := h7
      refine ⟨cv, h6, ?_⟩
      have hok := hHk.ok k _ hH
      simp only [AV.sim]
      obtain ⟨h0, ⟨h8, h9⟩ | ⟨bl, cap, cur, lo, hi, h8, h9, h10, h11, h12, h13, h14⟩⟩ := hok
      · subst h9
        have hnil : cs = [] := List.eq_nil_of_length_eq_zero (by simpa using h0)
        subst hnil
        exact ⟨none, 0, [], by rw [h7, h8], Nat.le_refl _, fun h => absurd h (by simp), by simp [AV.simL]⟩
      · refine ⟨_, cap, _, by rw [h7, h8], h10, fun hl => ⟨_, rfl, ?_, fun j cv hj => ?_⟩, simL_mono (S := fun _ => False) hmw (fun _ h => h.elim) _ _ hk h14⟩
        · rintro (hx | ⟨j, c, hj, hb⟩)
          · exact hHk.apart bl ⟨k, _, hH, by rw [h8]; rfl⟩ hx
          · obtain ⟨g1, g2⟩ := hlk j c hj
            exact g2 (hHk.dist j k bl (by rw [g1]; simp) (by rw [hH]; simp) hb (by rw [h8]; rfl))
        · rw [Go.Sk.add_none, Nat.zero_add, cell_of_row w bl j cur e (lo, hi) h9]
          rw [List.getElem?_take] at hj
          split at hj
          · simpa using hj
          · cases hj
    · obtain ⟨cv, h6, h7⟩ := hEn u av hu
      exact ⟨cv, h6, sim_mono (S := fun _ => True) hmw (fun _ _ => rfl) av cv (inS_true av) h7⟩
  · intro j b hj
    obtain ⟨g1, _⟩ := hlk j b hj
    exact Blk.ok_conv b rfl (fun vs hvs => simL_mono (S := fun _ => True) hmw (fun _ _ => rfl) _ _ (inSL_true _) hvs) (hHk.ok j b g1)
  · intro j j' b g1 g2 g3 g4
    obtain ⟨c, hc⟩ := Option.ne_none_iff_exists'.1 g1
    obtain ⟨c', hc'⟩ := Option.ne_none_iff_exists'.1 g2
    exact hHk.dist j j' b (by rw [(hlk j c hc).1]; simp) (by rw [(hlk j' c' hc').1]; simp) g3 g4
  · intro u av hu
    simp only at hu ⊢
    rw [lk_cons] at hu
    split at hu
    · simp at hu; subst hu; simp only [AV.inS]; exact inSL_mono (fun _ h => h.elim) _ hk
    · exact hbE u av hu
theorem renRow {τ : Nat → Nat} {t : TypeId} {sz n n' : Nat} {k : IntKind} {l l' : List Int} (hn : n = n') (hl : l = l') : (Blk.row t sz n (I k l)).ren τ = .row t sz n' (I k l') := by subst hn hl; exact ren_rowI
theorem renBlk {τ : Nat → Nat} {t : TypeId} {k : IntKind} {l l' : List Int} (hl : l = l') : (Blk.blk t (I k l)).ren τ = .blk t (I k l') := by subst hl; exact ren_blkI
theorem ox_litRI {C : Ctx} {N : Nat} {E : List (Nat × AV)} {H : List (Nat × Blk)} {d : Nat} {ty : TypeId} {ps : String} {af : Array Edge} {g : Option (Nat × Bool)} {t e : TypeId} {n : Nat} {parts : Array (Nat × Operand)} {vs zs : List AV} {p : List (Nat × AV)} {k : IntKind} {ws : List Int} (hC : C.Ok) (hx : OpVL E (parts.toList.map (·.2)) vs p) (hu : C.P.underlying t = some (.slice e)) (hsz : C.P.cellsOf e = 1)
    (hz : zeroAV C.P e = some zs) (hzl : zs.length = 1) (hn : n ≤ 2 ^ 24) (hks : parts.toList.map (·.1) = List.range' 0 n) (hl : vs.length = n) (hv : vs.all AV.one = true) (hI : vs = I k ws) (hd : Nat.blt d C.T = true) (hd6 : Nat.blt d 1000000 = true) :
    OpC C ⟨N, E, H⟩ ⟨some d, .buildSlice t n parts, ty, ps, af, g⟩ ⟨⟨some d, .buildSlice t n parts, ty, ps, af, g⟩, false, p, [], [], [(N, .row e 1 n (I k ws))], .row N⟩ ⟨N + 1, (d, .row N) :: E, (N, .row e 1 n (I k ws)) :: H⟩ := by
  subst hI; exact ox_litR hC hx hu hsz hz hzl hn hks hl hv hd hd6
theorem app_1 {k : IntKind} {us : List Int} {a : Int} : I k us ++ [AV.i k a].take (1 * 1) = I k (us ++ [a]) := by simp
theorem app_4 {k : IntKind} {us : List Int} {a b c d : Int} : I k us ++ [AV.i k a, AV.i k b, AV.i k c, AV.i k d].take (4 * 1) = I k (us ++ [a, b, c, d]) := by simp
end Go.Sk
