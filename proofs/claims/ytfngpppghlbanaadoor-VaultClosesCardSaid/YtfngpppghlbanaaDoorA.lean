/- Own work: a calculus for walks through the program, and plain laws: Fw1, Fw2, Fw3, Fw4, Fw5 -/
import Derived.WalkKit
import Derived.CallsIn
import Derived.OrdersIn
import Derived.TacticsInMore
import Derived.RangeFuncRecord
namespace Go.Sk
open Go.RowKit
inductive AV where
  | i (k : IntKind) (n : Int)
  | b (x : Bool)
  | s (x : ByteArray)
  | nilp
  | nils
  | nilf
  | p (key off : Nat)
  | row (key : Nat)
  | sl (key off len : Nat)
  | vs (n : Nat) (xs : List AV)
  | rp (xs : List AV)
  | ag (xs : List AV)
  | tu (xs : List AV)
  | f (fn : FuncId) (caps : List AV)
  | un
def tgt (f : Nat) : Fn := if f < 1000000000 then .func f else .yield (f - 1000000000)
theorem tgt_func {f : Nat} (h : Nat.blt f 1000000000 = true) : tgt f = .func f := if_pos (Nat.le_of_ble_eq_true h)
theorem tgt_yield {l : Nat} : tgt (1000000000 + l) = .yield l := by unfold tgt; rw [if_neg (Nat.not_lt.2 (Nat.le_add_right _ _)), Nat.add_sub_cancel_left]
def blkOf : Value → Option Nat
  | .pointer (some a) => some a.block
  | .slice (some a) _ _ => some a.block
  | _ => none
mutual
/-- What a symbolic value says of a value: 'ρ' anchors the keys, 'O' are the blocks that may be written. -/
def AV.sim (ρ : Nat → Value) (w : World) (O : Nat → Prop) : AV → Value → Prop
  | .i k n, v => v = .int k n
  | .b x, v => v = .bool x
  | .s x, v => v = .string x
  | .nilp, v => v = .pointer none
  | .nils, v => v = .slice none 0 0
  | .nilf, v => v = .nilFunc
  | .p k off, v => ∃ bl, blkOf (ρ k) = some bl ∧ v = .pointer (some ⟨bl, off, none⟩)
  | .row k, v => v = ρ k ∧ ∃ a n c, v = .slice a n c
  | .sl k off len, v => ∃ a cap, v = .slice a len cap ∧ len ≤ cap ∧ (0 < len → ∃ bl, blkOf (ρ k) = some bl ∧ a = some ⟨bl, off, none⟩)
  | .vs n xs, v => ∃ a cap cvs, v = .slice a n cap ∧ n ≤ cap ∧ (0 < cvs.length → ∃ ad, a = some ad ∧ ¬ O ad.block ∧ ∀ j cv, cvs[j]? = some cv → w.cell? (ad.add j) = some cv) ∧ AV.simL ρ w O xs cvs
  | .rp xs, v => ∃ ad cvs, v = .pointer (some ad) ∧ (0 < cvs.length → ¬ O ad.block ∧ ∀ j cv, cvs[j]? = some cv → w.cell? (ad.add j) = some cv) ∧ AV.simL ρ w O xs cvs
  | .ag xs, v => ∃ cvs, v = .agg cvs.toArray ∧ AV.simL ρ w O xs cvs
  | .tu xs, v => ∃ cvs, v = .tuple cvs.toArray ∧ AV.simL ρ w O xs cvs
  | .f fn caps, v => ∃ cvs, v = .func (tgt fn) #[] cvs.toArray ∧ AV.simL ρ w O caps cvs
  | .un, _ => True
def AV.simL (ρ : Nat → Value) (w : World) (O : Nat → Prop) : List AV → List Value → Prop
  | [], [] => True
  | x :: xs, v :: us => AV.sim ρ w O x v ∧ AV.simL ρ w O xs us
  | _, _ => False
end
mutual
/-- All keys lie in S. -/
def AV.inS (S : Nat → Prop) : AV → Prop
  | .p k _ => S k
  | .row k => S k
  | .sl k _ _ => S k
  | .vs _ xs => AV.inSL S xs
  | .rp xs => AV.inSL S xs
  | .ag xs => AV.inSL S xs
  | .tu xs => AV.inSL S xs
  | .f _ xs => AV.inSL S xs
  | _ => True
def AV.inSL (S : Nat → Prop) : List AV → Prop
  | [] => True
  | x :: xs => AV.inS S x ∧ AV.inSL S xs
end
mutual
/-- No part of it lies in memory that is only read. -/
def AV.novs : AV → Prop
  | .vs _ _ => False
  | .rp _ => False
  | .ag xs => AV.novsL xs
  | .tu xs => AV.novsL xs
  | .f _ xs => AV.novsL xs
  | _ => True
def AV.novsL : List AV → Prop
  | [] => True
  | x :: xs => AV.novs x ∧ AV.novsL xs
end
mutual
/-- The keys named anew. -/
def AV.ren (τ : Nat → Nat) : AV → AV
  | .p k off => .p (τ k) off
  | .row k => .row (τ k)
  | .sl k off len => .sl (τ k) off len
  | .vs n xs => .vs n (AV.renL τ xs)
  | .rp xs => .rp (AV.renL τ xs)
  | .ag xs => .ag (AV.renL τ xs)
  | .tu xs => .tu (AV.renL τ xs)
  | .f fn xs => .f fn (AV.renL τ xs)
  | .i k n => .i k n
  | .b x => .b x
  | .s x => .s x
  | .nilp => .nilp
  | .nils => .nils
  | .nilf => .nilf
  | .un => .un
def AV.renL (τ : Nat → Nat) : List AV → List AV
  | [] => []
  | x :: xs => AV.ren τ x :: AV.renL τ xs
end
abbrev I (k : IntKind) (xs : List Int) : List AV := xs.map (AV.i k)
section
variable {ρ ρ' : Nat → Value} {w w' : World} {O O' S S' : Nat → Prop}
theorem simL_length : ∀ {xs : List AV} {vs : List Value}, AV.simL ρ w O xs vs → vs.length = xs.length
  | [], [], _ => rfl
  | _ :: _, _ :: _, h => by simp only [AV.simL] at h; simp [simL_length h.2]
  | [], _ :: _, h => by simp [AV.simL] at h
  | _ :: _, [], h => by simp [AV.simL] at h
theorem simL_get : ∀ {xs : List AV} {vs : List Value}, AV.simL ρ w O xs vs → ∀ {j : Nat} {x : AV}, xs[j]? = some x → ∃ v, vs[j]? = some v ∧ AV.sim ρ w O x v
  | [], _, _, j, x, h => by simp at h
  | y :: ys, [], h, _, _, _ => by simp [AV.simL] at h
  | y :: ys, v :: vs, h, j, x, hx => by
    simp only [AV.simL] at h
    cases j with
    | zero => simp at hx; subst hx; exact ⟨v, by simp, h.1⟩
    | succ j => simp at hx; obtain ⟨c, hu, hs⟩ := simL_get h.2 hx; exact ⟨c, by simpa using hu, hs⟩
theorem simL_getV : ∀ {xs : List AV} {vs : List Value}, AV.simL ρ w O xs vs → ∀ {j : Nat} {v : Value}, vs[j]? = some v → ∃ x, xs[j]? = some x ∧ AV.sim ρ w O x v
  | [], [], _, j, x, h => by simp at h
  | [], _ :: _, h, _, _, _ => by simp [AV.simL] at h
  | y :: ys, [], h, _, _, _ => by simp [AV.simL] at h
  | y :: ys, v :: vs, h, j, x, hx => by
    simp only [AV.simL] at h
    cases j with
    | zero => simp at hx; subst hx; exact ⟨y, by simp, h.1⟩
    | succ j => simp at hx; obtain ⟨c, hu, hs⟩ := simL_getV h.2 hx; exact ⟨c, by simpa using hu, hs⟩
theorem simL_append : ∀ {xs ys : List AV} {vs us : List Value}, AV.simL ρ w O xs vs → AV.simL ρ w O ys us → AV.simL ρ w O (xs ++ ys) (vs ++ us)
  | [], _, [], _, _, h => h
  | _ :: _, _, _ :: _, _, h, k => by simp only [AV.simL, List.cons_append] at *; exact ⟨h.1, simL_append h.2 k⟩
  | [], _, _ :: _, _, h, _ => by simp [AV.simL] at h
  | _ :: _, _, [], _, h, _ => by simp [AV.simL] at h
theorem simL_take : ∀ {xs : List AV} {vs : List Value} (n : Nat), AV.simL ρ w O xs vs → AV.simL ρ w O (xs.take n) (vs.take n)
  | [], [], _, _ => by simp [AV.simL]
  | _ :: _, _ :: _, 0, _ => by simp [AV.simL]
  | _ :: _, _ :: _, n + 1, h => by simp only [AV.simL, List.take_succ_cons] at *; exact ⟨h.1, simL_take n h.2⟩
  | [], _ :: _, _, h => by simp [AV.simL] at h
  | _ :: _, [], _, h => by simp [AV.simL] at h
theorem simL_drop : ∀ {xs : List AV} {vs : List Value} (n : Nat), AV.simL ρ w O xs vs → AV.simL ρ w O (xs.drop n) (vs.drop n)
  | [], [], _, _ => by simp [AV.simL]
  | _ :: _, _ :: _, 0, h => by simpa using h
  | _ :: _, _ :: _, n + 1, h => by simp only [AV.simL, List.drop_succ_cons] at *; exact simL_drop n h.2
  | [], _ :: _, _, h => by simp [AV.simL] at h
  | _ :: _, [], _, h => by simp [AV.simL] at h
theorem simL_set : ∀ {xs : List AV} {vs : List Value} (n : Nat) {x : AV} {v : Value}, AV.simL ρ w O xs vs → AV.sim ρ w O x v → AV.simL ρ w O (xs.set n x) (vs.set n v)
  | [], [], _, _, _, _, _ => by simp [AV.simL]
  | _ :: _, _ :: _, 0, _, _, h, k => by simp only [AV.simL, List.set_cons_zero] at *; exact ⟨k, h.2⟩
  | _ :: _, _ :: _, n + 1, _, _, h, k => by simp only [AV.simL, List.set_cons_succ] at *; exact ⟨h.1, simL_set n h.2 k⟩
  | [], _ :: _, _, _, _, h, _ => by simp [AV.simL] at h
  | _ :: _, [], _, _, _, h, _ => by simp [AV.simL] at h
theorem simL_of_get : ∀ {xs : List AV} {vs : List Value}, vs.length = xs.length → (∀ (j : Nat) (x : AV) (v : Value), xs[j]? = some x → vs[j]? = some v → AV.sim ρ w O x v) → AV.simL ρ w O xs vs
  | [], [], _, _ => by simp [AV.simL]
  | x :: xs, v :: vs, hl, h => by
    simp only [AV.simL]
    exact ⟨h 0 x v (by simp) (by simp), simL_of_get (by simpa using hl) fun j y c hy hu => h (j + 1) y c (by simpa using hy) (by simpa using hu)⟩
  | [], _ :: _, hl, _ => by simp at hl
  | _ :: _, [], hl, _ => by simp at hl
theorem simL_I {k : IntKind} : ∀ (xs : List Int), AV.simL ρ w O (I k xs) (xs.map (Value.int k))
  | [] => by simp [AV.simL]
  | x :: xs => by
    simp only [List.map_cons, AV.simL, AV.sim]
    exact ⟨trivial, simL_I xs⟩
theorem simL_I_eq {k : IntKind} : ∀ {xs : List Int} {vs : List Value}, AV.simL ρ w O (I k xs) vs → vs = xs.map (Value.int k)
  | [], [], _ => rfl
  | x :: xs, v :: vs, h => by
    simp only [List.map_cons, AV.simL, AV.sim] at h
    rw [h.1, simL_I_eq h.2]; rfl
  | [], _ :: _, h => by simp [AV.simL] at h
  | _ :: _, [], h => by simp [AV.simL] at h
mutual
theorem sim_mono (hw : ∀ a v, ¬ O a.block → w.cell? a = some v → w'.cell? a = some v ∧ ¬ O' a.block) (hρ : ∀ k, S k → ρ' k = ρ k) :
    ∀ (x : AV) (v : Value), x.inS S → AV.sim ρ w O x v → AV.sim ρ' w' O' x v
  | .i _ _, _, _, h | .b _, _, _, h | .s _, _, _, h | .nilp, _, _, h | .nils, _, _, h | .nilf, _, _, h => by simpa [AV.sim] using h
  | .un, _, _, _ => by simp [AV.sim]
  | .p k off, v, hk, h => by simp only [AV.sim, AV.inS] at *; rw [hρ k hk]; exact h
  | .row k, v, hk, h => by simp only [AV.sim, AV.inS] at *; rw [hρ k hk]; exact h
  | .sl k off len, v, hk, h => by simp only [AV.sim, AV.inS] at *; rw [hρ k hk]; exact h
  | .vs n xs, v, hk, h => by
    simp only [AV.sim, AV.inS] at *
    obtain ⟨a, cap, cvs, h1, h2, h3, h4⟩ := h
    refine ⟨a, cap, cvs, h1, h2, fun hl => ?_, simL_mono hw hρ xs cvs hk h4⟩
    obtain ⟨ad, e, hO, hc⟩ := h3 hl
    have hb : ∀ j, (ad.add j).block = ad.block := fun j => by unfold Addr.add; split <;> rfl
    obtain ⟨c0, hc0⟩ : ∃ c0, cvs[0]? = some c0 := ⟨cvs[0], by simp [hl]⟩
    exact ⟨ad, e, by have := (hw (ad.add 0) c0 (by rw [hb]; exact hO) (hc 0 c0 hc0)).2; rwa [hb] at this, fun j cv hj => (hw _ _ (by rw [hb]; exact hO) (hc j cv hj)).1⟩
  | .rp xs, v, hk, h => by
    simp only [AV.sim, AV.inS] at *
    obtain ⟨ad, cvs, h1, h3, h4⟩ := h
    refine ⟨ad, cvs, h1, fun hl => ?_, simL_mono hw hρ xs cvs hk h4⟩
    obtain ⟨hO, hc⟩ := h3 hl
    have hb : ∀ j, (ad.add j).block = ad.block := fun j => by unfold Addr.add; split <;> rfl
    obtain ⟨c0, hc0⟩ : ∃ c0, cvs[0]? = some c0 := ⟨cvs[0], by simp [hl]⟩
    exact ⟨by have := (hw (ad.add 0) c0 (by rw [hb]; exact hO) (hc 0 c0 hc0)).2; rwa [hb] at this, fun j cv hj => (hw _ _ (by rw [hb]; exact hO) (hc j cv hj)).1⟩
  | .ag xs, v, hk, h => by
    simp only [AV.sim, AV.inS] at *
    obtain ⟨cvs, h1, h4⟩ := h
    exact ⟨cvs, h1, simL_mono hw hρ xs cvs hk h4⟩
  | .tu xs, v, hk, h => by
    simp only [AV.sim, AV.inS] at *
    obtain ⟨cvs, h1, h4⟩ := h
    exact ⟨cvs, h1, simL_mono hw hρ xs cvs hk h4⟩
  | .f fn xs, v, hk, h => by
    simp only [AV.sim, AV.inS] at *
    obtain ⟨cvs, h1, h4⟩ := h
    exact ⟨cvs, h1, simL_mono hw hρ xs cvs hk h4⟩
theorem simL_mono (hw : ∀ a v, ¬ O a.block → w.cell? a = some v → w'.cell? a = some v ∧ ¬ O' a.block) (hρ : ∀ k, S k → ρ' k = ρ k) :
    ∀ (xs : List AV) (vs : List Value), AV.inSL S xs → AV.simL ρ w O xs vs → AV.simL ρ' w' O' xs vs
  | [], [], _, _ => by simp [AV.simL]
  | x :: xs, v :: vs, hk, h => by
    simp only [AV.simL, AV.inSL] at *
    exact ⟨sim_mono hw hρ x v hk.1 h.1, simL_mono hw hρ xs vs hk.2 h.2⟩
  | [], _ :: _, _, h => by simp [AV.simL] at h
  | _ :: _, [], _, h => by simp [AV.simL] at h
end
end
mutual
theorem inS_mono {S S' : Nat → Prop} (h : ∀ k, S k → S' k) : ∀ (x : AV), x.inS S → x.inS S'
  | .i _ _, _ | .b _, _ | .s _, _ | .nilp, _ | .nils, _ | .nilf, _ | .un, _ => by simp [AV.inS]
  | .p k _, hk | .row k, hk | .sl k _ _, hk => by simp only [AV.inS] at *; exact h k hk
  | .vs _ xs, hk | .rp xs, hk | .ag xs, hk | .tu xs, hk | .f _ xs, hk => by simp only [AV.inS] at *; exact inSL_mono h xs hk
theorem inSL_mono {S S' : Nat → Prop} (h : ∀ k, S k → S' k) : ∀ (xs : List AV), AV.inSL S xs → AV.inSL S' xs
  | [], _ => by simp [AV.inSL]
  | x :: xs, hk => by simp only [AV.inSL] at *; exact ⟨inS_mono h x hk.1, inSL_mono h xs hk.2⟩
end
mutual
theorem inS_true : ∀ (x : AV), x.inS (fun _ => True)
  | .i _ _ | .b _ | .s _ | .nilp | .nils | .nilf | .un | .p _ _ | .row _ | .sl _ _ _ => by simp [AV.inS]
  | .vs _ xs | .rp xs | .ag xs | .tu xs | .f _ xs => by simp only [AV.inS]; exact inSL_true xs
theorem inSL_true : ∀ (xs : List AV), AV.inSL (fun _ => True) xs
  | [] => by simp [AV.inSL]
  | x :: xs => by simp only [AV.inSL]; exact ⟨inS_true x, inSL_true xs⟩
end
theorem inSL_iff {S : Nat → Prop} : ∀ {xs : List AV}, AV.inSL S xs ↔ ∀ x ∈ xs, x.inS S
  | [] => by simp [AV.inSL]
  | x :: xs => by simp only [AV.inSL, List.mem_cons, forall_eq_or_imp, inSL_iff]
theorem inSL_I {S : Nat → Prop} {k : IntKind} (xs : List Int) : AV.inSL S (I k xs) := by
  rw [inSL_iff]; intro x hx; simp only [List.mem_map] at hx; obtain ⟨n, _, rfl⟩ := hx; simp [AV.inS]
theorem novsL_iff : ∀ {xs : List AV}, AV.novsL xs ↔ ∀ x ∈ xs, x.novs
  | [] => by simp [AV.novsL]
  | x :: xs => by simp only [AV.novsL, List.mem_cons, forall_eq_or_imp, novsL_iff]
theorem novsL_I {k : IntKind} (xs : List Int) : AV.novsL (I k xs) := by
  rw [novsL_iff]; intro x hx; simp only [List.mem_map] at hx; obtain ⟨n, _, rfl⟩ := hx; simp [AV.novs]
theorem renL_map (τ : Nat → Nat) : ∀ (xs : List AV), AV.renL τ xs = xs.map (AV.ren τ)
  | [] => rfl
  | x :: xs => by simp only [AV.renL, List.map_cons, renL_map τ xs]
end Go.Sk
namespace Go.Sk
open Go.RowKit
inductive Blk where
  | blk (t : TypeId) (cs : List AV)
  | row (t : TypeId) (sz n : Nat) (cs : List AV)
def Blk.cs : Blk → List AV
  | .blk _ cs => cs
  | .row _ _ _ cs => cs
abbrev Env := Nat → Option AV
abbrev Heap := Nat → Option Blk
def lk {α : Type} : List (Nat × α) → Nat → Option α
  | [], _ => none
  | (k, v) :: r, t => bif Nat.beq k t then some v else lk r t
theorem lk_cons {α : Type} (k : Nat) (v : α) (r : List (Nat × α)) (t : Nat) : lk ((k, v) :: r) t = if k = t then some v else lk r t := by
  simp only [lk]
  by_cases h : k = t
  · subst h; simp
  · have hb : Nat.beq k t = false := by rw [← Bool.not_eq_true, Nat.beq_eq]; exact h
    rw [hb, if_neg h]; rfl
def owned (ρ : Nat → Value) (H : Heap) (b : Nat) : Prop := ∃ k bk, H k = some bk ∧ blkOf (ρ k) = some b
def Blk.ok (ρ : Nat → Value) (w : World) (O : Nat → Prop) (k : Nat) : Blk → Prop
  | .blk t cs => ∃ bl cvs, ρ k = .pointer (some ⟨bl, 0, none⟩) ∧ w.heap[bl]? = some (.cells cvs t (0, 0)) ∧ AV.simL ρ w O cs cvs.toList
  | .row t sz n cs => cs.length = n * sz ∧ ((ρ k = .slice none 0 0 ∧ n = 0) ∨
      ∃ bl cap cur lo hi, ρ k = .slice (some ⟨bl, 0, none⟩) n cap ∧ w.heap[bl]? = some (.cells cur t (lo, hi)) ∧ n ≤ cap ∧ cap ≤ maxLen ∧ cap * sz ≤ cur.size ∧
        (cap * sz ≤ lo ∨ hi = lo) ∧ AV.simL ρ w O cs (cur.toList.take (n * sz)))
def Blk.inS (S : Nat → Prop) (b : Blk) : Prop := AV.inSL S b.cs
structure HOK (X : Nat → Prop) (ρ : Nat → Value) (w : World) (H : Heap) : Prop where
  ok : ∀ k bk, H k = some bk → bk.ok ρ w (fun b => X b ∨ owned ρ H b) k
  dist : ∀ k k' b, H k ≠ none → H k' ≠ none → blkOf (ρ k) = some b → blkOf (ρ k') = some b → k = k'
  apart : ∀ b, owned ρ H b → ¬ X b
def slot (a : Act) (t : Nat) : Option Value := if t < 1000000 then a.tmps[t]? else some (.pointer (some ⟨t - 1000000, 0, none⟩))
def EnvOK (ρ : Nat → Value) (w : World) (O : Nat → Prop) (E : Env) (a : Act) : Prop :=
  ∀ t av, E t = some av → ∃ cv, slot a t = some cv ∧ av.sim ρ w O cv
structure Fr (w : World) (O : Nat → Prop) (w' : World) : Prop where
  os : w'.os = w.os
  tape : w'.tape = w.tape
  output : w'.output = w.output
  size : w.heap.size ≤ w'.heap.size
  block : ∀ k, k < w.heap.size → ¬ O k → w'.heap[k]? = w.heap[k]?
theorem Fr.refl (w : World) (O : Nat → Prop) : Fr w O w := ⟨rfl, rfl, rfl, Nat.le_refl _, fun _ _ _ => rfl⟩
theorem Fr.trans {a b c : World} {O O' : Nat → Prop} (h : Fr a O b) (k : Fr b O' c) (hO : ∀ x, x < a.heap.size → O' x → O x) : Fr a O c :=
  ⟨k.os.trans h.os, k.tape.trans h.tape, k.output.trans h.output, Nat.le_trans h.size k.size, fun i hi hn =>
    (k.block i (Nat.lt_of_lt_of_le hi h.size) (fun h' => hn (hO i hi h'))).trans (h.block i hi hn)⟩
theorem Fr.mono {a b : World} {O O' : Nat → Prop} (h : Fr a O b) (hO : ∀ x, O x → O' x) : Fr a O' b :=
  ⟨h.os, h.tape, h.output, h.size, fun i hi hn => h.block i hi fun h' => hn (hO i h')⟩
theorem Fr.drew (w : World) (O : Nat → Prop) : Fr w O { w with drawn := w.drawn + 1 } := ⟨rfl, rfl, rfl, Nat.le_refl _, fun _ _ _ => rfl⟩
theorem block_lt_of_cell {w : World} {a : Addr} {v : Value} (h : w.cell? a = some v) : a.block < w.heap.size := World.block_lt_of_cell? w a h
theorem Fr.cell {w w' : World} {O : Nat → Prop} (h : Fr w O w') {a : Addr} {v : Value} (hO : ¬ O a.block) (hc : w.cell? a = some v) : w'.cell? a = some v := by
  have := h.block a.block (block_lt_of_cell hc) hO
  rw [World.cell?_of_block this]; exact hc
def upd (H : Heap) (rd wr : List (Nat × Blk)) : Heap := fun k =>
  match lk wr k with
  | some b => some b
  | none => if (lk rd k).isSome then none else H k
structure Tri (P : Program) (F : Fence) (n : Nat) (o : Oper) (pre : List (Nat × AV)) (ro rd wr : List (Nat × Blk)) (v : AV) : Prop where
  sem : ∀ (X : Nat → Prop) (ρ : Nat → Value) (w : World) (a : Act),
    (∀ t av, (t, av) ∈ pre → ∃ cv, slot a t = some cv ∧ av.sim ρ w (fun b => X b ∨ owned ρ (lk (ro ++ rd)) b) cv) →
    HOK X ρ w (lk (ro ++ rd)) → (∀ b, X b → b < w.heap.size) →
    (∀ k, lk wr k ≠ none → lk ro k = none) →
    ∀ S : Nat → Prop, (∀ t av, (t, av) ∈ pre → av.inS S) → (∀ k b, (k, b) ∈ ro → S k ∧ b.inS S) → (∀ k b, (k, b) ∈ rd → S k ∧ b.inS S) → (∀ k, lk wr k ≠ none → lk rd k = none → ¬ S k) →
    o.wpIn F n P a w (fun a' w' => ∃ ρ' cv, a' = a.put o.dst cv ∧ (∀ k, lk wr k = none ∨ lk rd k ≠ none → ρ' k = ρ k) ∧ Fr w (owned ρ (lk rd)) w' ∧
      HOK X ρ' w' (lk (ro ++ wr)) ∧ (∀ b, owned ρ' (lk wr) b → owned ρ (lk rd) b ∨ w.heap.size ≤ b) ∧
      v.sim ρ' w' (fun b => X b ∨ owned ρ' (lk (ro ++ wr)) b) cv) (fun _ _ _ => False)
  bd : ∀ S : Nat → Prop, (∀ t av, (t, av) ∈ pre → av.inS S) → (∀ k b, (k, b) ∈ ro → S k ∧ b.inS S) → (∀ k b, (k, b) ∈ rd → S k ∧ b.inS S) →
    (∀ k, lk wr k ≠ none → lk rd k = none → S k) → v.inS S ∧ ∀ k b, (k, b) ∈ wr → S k ∧ b.inS S
theorem lk_mem {α : Type} : ∀ {l : List (Nat × α)} {k : Nat} {v : α}, lk l k = some v → (k, v) ∈ l
  | [], _, _, h => by simp [lk] at h
  | (k', v') :: r, k, v, h => by
    rw [lk_cons] at h
    split at h
    · rename_i e; simp at h; subst e; subst h; exact List.mem_cons_self
    · exact List.mem_cons_of_mem _ (lk_mem h)
theorem lk_append {α : Type} : ∀ (l m : List (Nat × α)) (k : Nat), lk (l ++ m) k = (match lk l k with | some v => some v | none => lk m k)
  | [], _, _ => rfl
  | (k', v') :: r, m, k => by
    rw [List.cons_append, lk_cons, lk_cons]
    split
    · rfl
    · exact lk_append r m k
structure StF (X : Nat → Prop) (S : Nat → Prop) (E : Env) (H : Heap) (ρ : Nat → Value) (a : Act) (w : World) : Prop where
  env : EnvOK ρ w (fun b => X b ∨ owned ρ H b) E a
  hok : HOK X ρ w H
  hX : ∀ b, X b → b < w.heap.size
  bE : ∀ t av, E t = some av → av.inS S
  bH : ∀ k bk, H k = some bk → S k ∧ bk.inS S
theorem sim_congrO {ρ : Nat → Value} {w : World} {O O' : Nat → Prop} (h : ∀ b, O b ↔ O' b) (x : AV) (v : Value) : AV.sim ρ w O x v ↔ AV.sim ρ w O' x v := by
  have : O = O' := funext fun b => propext (h b)
  rw [this]
theorem Blk.ok_congrO {ρ : Nat → Value} {w : World} {O O' : Nat → Prop} {k : Nat} (h : ∀ b, O b ↔ O' b) (x : Blk) : x.ok ρ w O k ↔ x.ok ρ w O' k := by
  have : O = O' := funext fun b => propext (h b)
  rw [this]
theorem Blk.ok_mono {ρ ρ' : Nat → Value} {w w' : World} {O O' S : Nat → Prop} {k : Nat} (hw : ∀ a v, ¬ O a.block → w.cell? a = some v → w'.cell? a = some v ∧ ¬ O' a.block)
    (hρ : ∀ k, S k → ρ' k = ρ k) (hk : S k) (hb : ∀ b, blkOf (ρ k) = some b → b < w.heap.size → w'.heap[b]? = w.heap[b]?) : ∀ (x : Blk), x.inS S → x.ok ρ w O k → x.ok ρ' w' O' k
  | .blk t cs, hs, h => by
    obtain ⟨bl, cvs, h1, h2, h3⟩ := h
    exact ⟨bl, cvs, by rw [hρ k hk, h1], by rw [hb bl (by simp [h1, blkOf]) (Array.getElem?_eq_some_iff.1 h2).1, h2], simL_mono hw hρ _ _ hs h3⟩
  | .row t sz n cs, hs, h => by
    obtain ⟨h0, h⟩ := h
    refine ⟨h0, ?_⟩
    rcases h with h | ⟨bl, cap, cur, lo, hi, h1, h2, h3, h4, h5, h6, h7⟩
    · exact .inl ⟨by rw [hρ k hk, h.1], h.2⟩
    · exact .inr ⟨bl, cap, cur, lo, hi, by rw [hρ k hk, h1], by rw [hb bl (by simp [h1, blkOf]) (Array.getElem?_eq_some_iff.1 h2).1, h2], h3, h4, h5, h6, simL_mono hw hρ _ _ hs h7⟩
theorem owned_lt {X : Nat → Prop} {ρ : Nat → Value} {w : World} {H : Heap} (h : HOK X ρ w H) {b : Nat} (ho : owned ρ H b) : b < w.heap.size := by
  obtain ⟨k, bk, hk, hb⟩ := ho
  have := h.ok k bk hk
  cases bk with
  | blk t cs =>
    obtain ⟨bl, cvs, h1, h2, _⟩ := this
    simp only [h1, blkOf, Option.some.injEq] at hb
    subst hb
    exact (Array.getElem?_eq_some_iff.1 h2).1
  | row t sz n cs =>
    obtain ⟨_, h | ⟨bl, cap, cur, lo, hi, h1, h2, _⟩⟩ := this
    · simp [h.1, blkOf] at hb
    · simp only [h1, blkOf, Option.some.injEq] at hb
      subst hb
      exact (Array.getElem?_eq_some_iff.1 h2).1
theorem Act.put_tmps_size (a : Act) (d : Option Tmp) (v : Value) : (a.put d v).tmps.size = a.tmps.size := by cases d <;> simp [Act.put]
theorem Act.put_defers' (a : Act) (d : Option Tmp) (v : Value) : (a.put d v).defers = a.defers := by cases d <;> rfl
theorem slot_put_ne (a : Act) (d : Option Tmp) (v : Value) {t : Nat} (h : ∀ x, d = some x → x ≠ t) : slot (a.put d v) t = slot a t := by
  unfold slot
  split
  · cases d with
    | none => rfl
    | some x => simp [Act.put, Array.getElem?_setIfInBounds_ne (h x rfl)]
  · rfl
theorem slot_put_eq (a : Act) (d : Nat) (v : Value) (h : d < a.tmps.size) (h' : d < 1000000) : slot (a.put (some d) v) d = some v := by
  unfold slot
  rw [if_pos h']
  simp [Act.put, h]
def setE (E : Env) (d : Option Tmp) (v : AV) : Env := fun t => if d = some t then some v else E t
theorem Tri.frame {P : Program} {F : Fence} {n : Nat} {o : Oper} {pre : List (Nat × AV)} {ro rd wr : List (Nat × Blk)} {v : AV} (h : Tri P F n o pre ro rd wr v)
    {X S S' : Nat → Prop} {E : Env} {H : Heap} {ρ : Nat → Value} {a : Act} {w : World} (hs : StF X S E H ρ a w)
    (hpre : ∀ t av, (t, av) ∈ pre → E t = some av) (hro : ∀ k b, (k, b) ∈ ro → H k = some b) (hrd : ∀ k b, (k, b) ∈ rd → H k = some b)
    (hdj : ∀ k, lk rd k ≠ none → lk ro k = none)
    (hnew : ∀ k, lk wr k ≠ none → lk rd k = none → ¬ S k ∧ S' k) (hS : ∀ k, S k → S' k) (hd : ∀ d, o.dst = some d → d < a.tmps.size ∧ d < 1000000) :
    o.wpIn F n P a w (fun a' w' => ∃ ρ', StF X S' (setE E o.dst v) (upd H rd wr) ρ' a' w' ∧ a'.tmps.size = a.tmps.size ∧ a'.defers = a.defers ∧ (∀ k, S k → ρ' k = ρ k) ∧
      Fr w (owned ρ H) w' ∧ (∀ b, owned ρ' (upd H rd wr) b → owned ρ H b ∨ w.heap.size ≤ b)) (fun _ _ _ => False) := by
  obtain ⟨hE, hH, hXlt, hbE, hbH⟩ := hs
  have hro' : ∀ k b, lk ro k = some b → H k = some b := fun k b hk => hro k b (lk_mem hk)
  have hwr : ∀ k, lk wr k ≠ none → lk ro k = none := by
    intro k hk
    cases hr : lk rd k with
    | some c => exact hdj k (by rw [hr]; simp)
    | none =>
      cases hc : lk ro k with
      | none => rfl
      | some c => exact absurd (hbH k c (hro' k c hc)).1 (hnew k hk hr).1
  have hrd' : ∀ k b, lk rd k = some b → H k = some b := fun k b hk => hrd k b (lk_mem hk)
  have hft : ∀ k b, lk (ro ++ rd) k = some b → H k = some b := by
    intro k b hk
    rw [lk_append] at hk
    cases hr : lk ro k with
    | some c => rw [hr] at hk; simp at hk; subst hk; exact hro' k c hr
    | none => rw [hr] at hk; exact hrd' k b hk
  -- the other blocks' owner
  let X1 : Nat → Prop := fun b => X b ∨ ∃ k bk, H k = some bk ∧ lk (ro ++ rd) k = none ∧ blkOf (ρ k) = some b
  have hO : ∀ b, (X1 b ∨ owned ρ (lk (ro ++ rd)) b) ↔ (X b ∨ owned ρ H b) := by
    intro b
    constructor
    · rintro ((hx | ⟨k, bk, hk, _, hb⟩) | ⟨k, bk, hk, hb⟩)
      · exact .inl hx
      · exact .inr ⟨k, bk, hk, hb⟩
      · exact .inr ⟨k, bk, hft k bk hk, hb⟩
    · rintro (hx | ⟨k, bk, hk, hb⟩)
      · exact .inl (.inl hx)
      · cases hc : lk (ro ++ rd) k with
        | none => exact .inl (.inr ⟨k, bk, hk, hc, hb⟩)
        | some c => exact .inr ⟨k, c, hc, hb⟩
  have hok1 : HOK X1 ρ w (lk (ro ++ rd)) := by
    refine ⟨fun k bk hk => (Blk.ok_congrO hO bk).2 (hH.ok k bk (hft k bk hk)), fun k k' b h1 h2 h3 h4 => ?_, fun b hb hx => ?_⟩
    · refine hH.dist k k' b ?_ ?_ h3 h4
      · cases hc : lk (ro ++ rd) k with
        | none => exact absurd hc h1
        | some c => rw [hft k c hc]; simp
      · cases hc : lk (ro ++ rd) k' with
        | none => exact absurd hc h2
        | some c => rw [hft k' c hc]; simp
    · obtain ⟨k, bk, hk, hb'⟩ := hb
      rcases hx with hx | ⟨k', bk', hk', hn, hb''⟩
      · exact hH.apart b ⟨k, bk, hft k bk hk, hb'⟩ hx
      · have := hH.dist k k' b (by rw [hft k bk hk]; simp) (by rw [hk']; simp) hb' hb''
        subst this
        rw [hn] at hk; cases hk
  have hpre1 : ∀ t av, (t, av) ∈ pre → ∃ cv, slot a t = some cv ∧ av.sim ρ w (fun b => X1 b ∨ owned ρ (lk (ro ++ rd)) b) cv := by
    intro t av hm
    obtain ⟨cv, h1, h2⟩ := hE t av (hpre t av hm)
    exact ⟨cv, h1, (sim_congrO hO av cv).2 h2⟩
  have hX1 : ∀ b, X1 b → b < w.heap.size := by
    rintro b (hx | ⟨k, bk, hk, _, hb⟩)
    · exact hXlt b hx
    · exact owned_lt hH ⟨k, bk, hk, hb⟩
  refine Oper.wpIn_mono ?_ (h.sem X1 ρ w a hpre1 hok1 hX1 hwr S (fun t av hm => hbE t av (hpre t av hm)) (fun k b hm => hbH k b (hro k b hm)) (fun k b hm => hbH k b (hrd k b hm)) (fun k h1 h2 => (hnew k h1 h2).1))
  rintro a' w' ⟨ρ', cv, rfl, hρ, hfr, hok', hown', hv⟩
  have hρS : ∀ k, S k → ρ' k = ρ k := by
    intro k hk
    refine hρ k ?_
    cases hw : lk wr k with
    | none => exact .inl rfl
    | some c =>
      refine .inr fun hr => ?_
      exact (hnew k (by rw [hw]; simp) hr).1 hk
  have hrdown : ∀ b, owned ρ (lk rd) b → owned ρ H b := fun b ⟨k, bk, hk, hb⟩ => ⟨k, bk, hrd' k bk hk, hb⟩
  have hfrH : Fr w (owned ρ H) w' := hfr.mono hrdown
  -- the keys that were no part of it
  have hother : ∀ k bk, H k = some bk → lk (ro ++ rd) k = none → lk wr k = none → upd H rd wr k = some bk := by
    intro k bk hk hn hw
    have hr : lk rd k = none := by
      rw [lk_append] at hn
      cases hr : lk ro k with
      | some c => rw [hr] at hn; simp at hn
      | none => rw [hr] at hn; exact hn
    simp [upd, hw, hr, hk]
  have hcase : ∀ k bk, upd H rd wr k = some bk → (lk (ro ++ wr) k = some bk) ∨ (H k = some bk ∧ lk (ro ++ rd) k = none ∧ lk wr k = none) := by
    intro k bk hk
    unfold upd at hk
    cases hw : lk wr k with
    | some c =>
      rw [hw] at hk; simp at hk; subst hk
      left
      rw [lk_append, hwr k (by rw [hw]; simp)]
      exact hw
    | none =>
      rw [hw] at hk
      simp only at hk
      split at hk
      · cases hk
      · rename_i hr
        have hr : lk rd k = none := by simpa using hr
        cases hro2 : lk ro k with
        | some c =>
          have := hro' k c hro2
          rw [hk] at this; cases this
          left; rw [lk_append, hro2]
        | none =>
          right
          exact ⟨hk, by rw [lk_append, hro2]; exact hr, rfl⟩
  have hwnew : ∀ k bk, H k = some bk → lk (ro ++ rd) k = none → lk wr k = none := by
    intro k bk hk hn
    cases hw : lk wr k with
    | none => rfl
    | some c =>
      have hr : lk rd k = none := by
        rw [lk_append] at hn
        cases hr : lk ro k with
        | some c => rw [hr] at hn; simp at hn
        | none => rw [hr] at hn; exact hn
      exact absurd (hbH k bk hk).1 (hnew k (by rw [hw]; simp) hr).1
  have hin : ∀ k bk, lk (ro ++ wr) k = some bk → upd H rd wr k = some bk := by
    intro k bk hk
    rw [lk_append] at hk
    cases hr : lk ro k with
    | some c =>
      rw [hr] at hk; simp at hk; subst hk
      have hw : lk wr k = none := by
        cases hw : lk wr k with
        | none => rfl
        | some d => have := hwr k (by rw [hw]; simp); rw [hr] at this; cases this
      have hrdn : lk rd k = none := by
        cases hw2 : lk rd k with
        | none => rfl
        | some d => have := hdj k (by rw [hw2]; simp); rw [hr] at this; cases this
      simp [upd, hw, hrdn, hro' k c hr]
    | none =>
      rw [hr] at hk
      simp at hk
      simp [upd, hk]
  have hO' : ∀ b, (X1 b ∨ owned ρ' (lk (ro ++ wr)) b) ↔ (X b ∨ owned ρ' (upd H rd wr) b) := by
    intro b
    constructor
    · rintro ((hx | ⟨k, bk, hk, hn, hb⟩) | ⟨k, bk, hk, hb⟩)
      · exact .inl hx
      · exact .inr ⟨k, bk, hother k bk hk hn (hwnew k bk hk hn), by rw [hρS k (hbH k bk hk).1]; exact hb⟩
      · exact .inr ⟨k, bk, hin k bk hk, hb⟩
    · rintro (hx | ⟨k, bk, hk, hb⟩)
      · exact .inl (.inl hx)
      · rcases hcase k bk hk with h1 | ⟨h1, h2, h3⟩
        · exact .inr ⟨k, bk, h1, hb⟩
        · exact .inl (.inr ⟨k, bk, h1, h2, by rw [hρS k (hbH k bk h1).1] at hb; exact hb⟩)
  have hownU : ∀ b, owned ρ' (upd H rd wr) b → owned ρ H b ∨ w.heap.size ≤ b := by
    rintro b ⟨k, bk, hk, hb⟩
    rcases hcase k bk hk with h1 | ⟨h1, h2, h3⟩
    · rw [lk_append] at h1
      cases hr : lk ro k with
      | some c =>
        rw [hr] at h1; simp at h1; subst h1
        have hw : lk wr k = none := by
          cases hw : lk wr k with
          | none => rfl
          | some d => have := hwr k (by rw [hw]; simp); rw [hr] at this; cases this
        exact .inl ⟨k, c, hro' k c hr, by rw [← hρ k (.inl hw)]; exact hb⟩
      | none =>
        rw [hr] at h1
        simp at h1
        rcases hown' b ⟨k, bk, h1, hb⟩ with h4 | h4
        · exact .inl (hrdown b h4)
        · exact .inr h4
    · exact .inl ⟨k, bk, h1, by rw [hρS k (hbH k bk h1).1] at hb; exact hb⟩
  have hwm : ∀ (x : Addr) (u : Value), ¬ (X x.block ∨ owned ρ H x.block) → w.cell? x = some u → w'.cell? x = some u ∧ ¬ (X x.block ∨ owned ρ' (upd H rd wr) x.block) := by
    intro x u hx hc
    refine ⟨hfrH.cell (fun h' => hx (.inr h')) hc, ?_⟩
    rintro (h' | h')
    · exact hx (.inl h')
    · rcases hownU _ h' with h4 | h4
      · exact hx (.inr h4)
      · exact absurd (block_lt_of_cell hc) (by omega)
  have hbd := h.bd S' (fun t av hm => by
      have := hbE t av (hpre t av hm)
      exact (inS_mono hS av this)) (fun k b hm => ⟨hS _ (hbH k b (hro k b hm)).1, inSL_mono hS _ (hbH k b (hro k b hm)).2⟩)
      (fun k b hm => ⟨hS _ (hbH k b (hrd k b hm)).1, inSL_mono hS _ (hbH k b (hrd k b hm)).2⟩) (fun k hk hr => (hnew k hk hr).2)
  refine ⟨ρ', ⟨?_, ⟨?_, ?_, ?_⟩, fun b hb => Nat.lt_of_lt_of_le (hXlt b hb) hfr.size, ?_, ?_⟩, Act.put_tmps_size _ _ _, Act.put_defers' _ _ _, hρS, hfrH, hownU⟩
  · -- env
    intro t av ht
    unfold setE at ht
    split at ht
    · rename_i hdst
      simp at ht; subst ht
      obtain ⟨h1, h2⟩ := hd t hdst
      exact ⟨cv, by rw [hdst]; exact slot_put_eq a t cv h1 h2, (sim_congrO hO' v cv).1 hv⟩
    · rename_i hdst
      obtain ⟨c2, h1, h2⟩ := hE t av ht
      refine ⟨c2, ?_, sim_mono hwm hρS av c2 (hbE t av ht) h2⟩
      rw [slot_put_ne a o.dst cv (fun x hx he => hdst (by rw [hx, he]))]
      exact h1
  · -- blocks
    intro k bk hk
    rcases hcase k bk hk with h1 | ⟨h1, h2, h3⟩
    · exact (Blk.ok_congrO hO' bk).1 (hok'.ok k bk h1)
    · refine Blk.ok_mono hwm hρS (hbH k bk h1).1 (fun b hb hlt => ?_) bk (hbH k bk h1).2 (hH.ok k bk h1)
      refine hfr.block b hlt ?_
      rintro ⟨k2, bk2, hk2, hb2⟩
      have := hH.dist k k2 b (by rw [h1]; simp) (by rw [hrd' k2 bk2 hk2]; simp) hb hb2
      subst this
      rw [lk_append] at h2
      cases hr : lk ro k with
      | some c => rw [hr] at h2; cases h2
      | none => rw [hr] at h2; simp at h2; rw [h2] at hk2; cases hk2
  · -- apart from one another
    intro k k' b hk hk' hb hb'
    obtain ⟨bk, hbk⟩ := Option.ne_none_iff_exists'.1 hk
    obtain ⟨bk', hbk'⟩ := Option.ne_none_iff_exists'.1 hk'
    rcases hcase k bk hbk with h1 | ⟨h1, h2, h3⟩ <;> rcases hcase k' bk' hbk' with h1' | ⟨h1', h2', h3'⟩
    · exact hok'.dist k k' b (by rw [h1]; simp) (by rw [h1']; simp) hb hb'
    · exfalso
      rw [hρS k' (hbH k' bk' h1').1] at hb'
      exact hok'.apart b ⟨k, bk, h1, hb⟩ (.inr ⟨k', bk', h1', h2', hb'⟩)
    · exfalso
      rw [hρS k (hbH k bk h1).1] at hb
      exact hok'.apart b ⟨k', bk', h1', hb'⟩ (.inr ⟨k, bk, h1, h2, hb⟩)
    · rw [hρS k (hbH k bk h1).1] at hb
      rw [hρS k' (hbH k' bk' h1').1] at hb'
      exact hH.dist k k' b (by rw [h1]; simp) (by rw [h1']; simp) hb hb'
  · -- apart from what others own
    intro b hb hx
    rcases hb with ⟨k, bk, hk, hb⟩
    rcases hcase k bk hk with h1 | ⟨h1, h2, h3⟩
    · exact hok'.apart b ⟨k, bk, h1, hb⟩ (.inl hx)
    · exact hH.apart b ⟨k, bk, h1, by rw [hρS k (hbH k bk h1).1] at hb; exact hb⟩ hx
  · intro t av ht
    unfold setE at ht
    split at ht
    · simp at ht; subst ht; exact hbd.1
    · exact inS_mono hS av (hbE t av ht)
  · intro k bk hk
    rcases hcase k bk hk with h1 | ⟨h1, h2, h3⟩
    · rw [lk_append] at h1
      cases hr : lk ro k with
      | some c =>
        rw [hr] at h1; simp at h1; subst h1
        have := hbH k c (hro' k c hr)
        exact ⟨hS _ this.1, inSL_mono hS _ this.2⟩
      | none => rw [hr] at h1; simp at h1; exact hbd.2 k bk (lk_mem h1)
    · exact ⟨hS _ (hbH k bk h1).1, inSL_mono hS _ (hbH k bk h1).2⟩
end Go.Sk
namespace Go.Sk
open Go.RowKit
def Marks (w0 : World) (ds : List Deferred) (w : World) : Prop :=
  ∃ bs : List Nat, bs.Nodup ∧ ds = bs.map (fun D => { target := .collected D, args := #[] }) ∧ ∀ D ∈ bs, w0.heap.size ≤ D ∧ w.heap[D]? = some (.deferred (some []))
theorem Marks.nil {w0 w : World} : Marks w0 [] w := ⟨[], List.nodup_nil, rfl, fun _ h => by simp at h⟩
theorem Marks.step {w0 w w' : World} {ds : List Deferred} (h : Marks w0 ds w) (hs : ∀ D : Nat, w.heap[D]? = some (Obj.deferred (some [])) → w'.heap[D]? = some (Obj.deferred (some []))) : Marks w0 ds w' := by
  obtain ⟨bs, h1, h2, h3⟩ := h
  exact ⟨bs, h1, h2, fun D hD => ⟨(h3 D hD).1, hs D (h3 D hD).2⟩⟩
theorem owned_cells {X : Nat → Prop} {ρ : Nat → Value} {w : World} {H : Heap} (h : HOK X ρ w H) {b : Nat} (ho : owned ρ H b) : ∃ c t f, w.heap[b]? = some (.cells c t f) := by
  obtain ⟨k, bk, hk, hb⟩ := ho
  have := h.ok k bk hk
  cases bk with
  | blk t cs =>
    obtain ⟨bl, cvs, h1, h2, _⟩ := this
    simp only [h1, blkOf, Option.some.injEq] at hb
    subst hb
    exact ⟨_, _, _, h2⟩
  | row t sz n cs =>
    obtain ⟨_, h | ⟨bl, cap, cur, lo, hi, h1, h2, _⟩⟩ := this
    · simp [h.1, blkOf] at hb
    · simp only [h1, blkOf, Option.some.injEq] at hb
      subst hb
      exact ⟨_, _, _, h2⟩
theorem Marks.fr {X : Nat → Prop} {ρ : Nat → Value} {w0 w w' : World} {H : Heap} {ds : List Deferred} (h : Marks w0 ds w) (hk : HOK X ρ w H) (hf : Fr w (owned ρ H) w') : Marks w0 ds w' :=
  h.step fun D hD => by
    rw [hf.block D (Array.getElem?_eq_some_iff.1 hD).1 fun ho => by obtain ⟨c, t, f, hc⟩ := owned_cells hk ho; rw [hD] at hc; cases hc]
    exact hD
def recAt (r : Loop) : Nat → Loop
  | 0 => r
  | 1 => { r with state := .busy }
  | 2 => { r with state := .done, pending := some .ret }
  | n + 3 => { r with state := .done, pending := some (.exit n) }
def RecOK (lp : Option (Nat × Loop)) (t : Nat) (w : World) : Prop := ∀ l r, lp = some (l, r) → w.heap[l]? = some (.loop (recAt r (t - 5000000)))
structure Ctx where
  P : Program
  F : Fence
  n : Nat
  T : Nat
  X : Nat → Prop
  w0 : World
  ρ0 : Nat → Value
  O0 : Nat → Prop
  fix : Nat → Prop
  lp : Option (Nat × Loop) := none
structure Dfr (C : Ctx) (E : Env) (ds : List Deferred) (w : World) : Prop where
  marks : Marks C.w0 ds w
  lp : ∀ t, 5000000 ≤ t → E t = some (.rp []) → RecOK C.lp t w
theorem fr_other {X : Nat → Prop} {ρ : Nat → Value} {w w' : World} {H : Heap} (hk : HOK X ρ w H) (hf : Fr w (owned ρ H) w') {b : Nat} {o : Obj} (hb : w.heap[b]? = some o) (ho : ∀ c t f, o ≠ .cells c t f) : w'.heap[b]? = some o := by
  rw [hf.block b (Array.getElem?_eq_some_iff.1 hb).1 fun h => by obtain ⟨c, t, f, hc⟩ := owned_cells hk h; rw [hb] at hc; cases hc; exact ho _ _ _ rfl]
  exact hb
theorem Dfr.fr {C : Ctx} {X : Nat → Prop} {ρ : Nat → Value} {w w' : World} {H : Heap} {E : Env} {d : Option Tmp} {v : AV} {ds : List Deferred} (h : Dfr C E ds w) (hd : ∀ t, d = some t → t < 1000000) (hk : HOK X ρ w H) (hf : Fr w (owned ρ H) w') : Dfr C (setE E d v) ds w' := by
  refine ⟨h.marks.fr hk hf, fun t ht he l r hr => fr_other hk hf (h.lp t ht ?_ l r hr) (fun _ _ _ e => by cases e)⟩
  unfold setE at he
  split at he
  · rename_i e; exact absurd ht (Nat.not_le.2 (Nat.lt_trans (hd t e) (by decide)))
  · exact he
theorem Dfr.step {C : Ctx} {E : Env} {w w' : World} {ds : List Deferred} (h : Dfr C E ds w) (hs : ∀ (D : Nat) (o : Obj), (∀ c t f, o ≠ Obj.cells c t f) → w.heap[D]? = some o → w'.heap[D]? = some o) : Dfr C E ds w' :=
  ⟨h.marks.step fun D hD => hs D _ (fun _ _ _ e => by cases e) hD, fun t ht he l r hr => hs l _ (fun _ _ _ e => by cases e) (h.lp t ht he l r hr)⟩
theorem Dfr.sub {C : Ctx} {E E' : Env} {w : World} {ds : List Deferred} (h : Dfr C E ds w) (hs : ∀ t, 5000000 ≤ t → E' t = some (.rp []) → E t = some (.rp [])) : Dfr C E' ds w := ⟨h.marks, fun t ht he => h.lp t ht (hs t ht he)⟩
theorem Dfr.set {C : Ctx} {E : Env} {w : World} {d : Option Tmp} {v : AV} {ds : List Deferred} (h : Dfr C E ds w) (hd : ∀ t, d = some t → t < 1000000) : Dfr C (setE E d v) ds w := h.sub fun t ht he => by
  unfold setE at he
  split at he
  · rename_i e; exact absurd ht (Nat.not_le.2 (Nat.lt_trans (hd t e) (by decide)))
  · exact he
theorem Dfr.cons {C : Ctx} {E : List (Nat × AV)} {w : World} {t : Nat} {v : AV} {ds : List Deferred} (h : Dfr C (lk E) ds w) (hv : v ≠ .rp []) : Dfr C (lk ((t, v) :: E)) ds w := h.sub fun u _ he => by
  rw [lk_cons] at he
  split at he
  · simp at he; exact absurd he hv
  · exact he
structure AS where
  N : Nat
  E : List (Nat × AV)
  H : List (Nat × Blk)
structure StR (C : Ctx) (N : Nat) (E : Env) (H : Heap) (ρ : Nat → Value) (a : Act) (w : World) : Prop where
  st : StF C.X (· < N) E H ρ a w
  T : a.tmps.size = C.T
  dfr : Dfr C E a.defers w
  fr : Fr C.w0 C.O0 w
  own : ∀ b, owned ρ H b → C.O0 b ∨ C.w0.heap.size ≤ b
  fix : ∀ k, C.fix k → k < N ∧ ρ k = C.ρ0 k
def St (C : Ctx) (s : AS) (a : Act) (w : World) : Prop := ∃ ρ, StR C s.N (lk s.E) (lk s.H) ρ a w
def W (C : Ctx) (c : Code) (Q : Exit → AS → Prop) (s : AS) : Prop :=
  ∀ a w, St C s a w → c.wpIn C.F C.n C.P (fun e a' w' => ∃ s', Q e s' ∧ St C s' a' w') a w
def thenQ (next : AS → Prop) (Q : Exit → AS → Prop) : Exit → AS → Prop
  | .normal, s => next s
  | e, s => Q e s
section
variable {C : Ctx} {Q : Exit → AS → Prop} {s : AS}
theorem W_mono {c : Code} {Q' : Exit → AS → Prop} (h : W C c Q s) (hq : ∀ e s, Q e s → Q' e s) : W C c Q' s :=
  fun a w hs => wpIn_mono (h a w hs) fun _ _ _ ⟨s', q, r⟩ => ⟨s', hq _ _ q, r⟩
theorem W_skip (h : Q .normal s) : W C .skip Q s := fun _ _ hs => wpIn_skip ⟨s, h, hs⟩
theorem W_exit {id : Nat} (h : Q (.exit id) s) : W C (.exit id) Q s := fun _ _ hs => wpIn_exit ⟨s, h, hs⟩
theorem W_ret (h : Q .ret s) : W C .ret Q s := fun _ _ hs => wpIn_ret ⟨s, h, hs⟩
theorem W_seq {x y : Code} (h : W C x (thenQ (W C y Q) Q) s) : W C (.seq x y) Q s := by
  intro a w hs
  refine wpIn_seq (wpIn_mono (h a w hs) ?_)
  rintro e a' w' ⟨s', q, r⟩
  cases e <;> first | exact q a' w' r | exact ⟨s', q, r⟩
theorem W_block {id : Nat} {c : Code} (h : W C c (fun e s => match e with | .exit j => if j = id then Q .normal s else Q (.exit j) s | e => Q e s) s) : W C (.block id c) Q s := by
  intro a w hs
  refine wpIn_block (wpIn_mono (h a w hs) ?_)
  rintro e a' w' ⟨s', q, r⟩
  cases e with
  | exit j =>
    simp only [Exit.inBlock]
    simp only at q
    split at q <;> rename_i hj
    · rw [if_pos hj]; exact ⟨s', q, r⟩
    · rw [if_neg hj]; exact ⟨s', q, r⟩
  | _ => exact ⟨s', q, r⟩
theorem slot_eval {a : Act} {t : Nat} {v : Value} (h : slot a t = some v) (ht : t < 1000000) : a.eval (.tmp t) = v := by
  unfold slot at h
  rw [if_pos ht] at h
  simp [Act.eval, Array.getD_eq_getD_getElem?, h]
theorem W_cond {t : Nat} {x : Bool} {c d : Code} (he : lk s.E t = some (.b x)) (ht : t < 1000000) (h1 : x = true → W C c Q s) (h2 : x = false → W C d Q s) : W C (.cond (.tmp t) c d) Q s := by
  intro a w hs
  obtain ⟨ρ, hr⟩ := hs
  obtain ⟨cv, h3, h4⟩ := hr.st.env t _ he
  simp only [AV.sim] at h4
  subst h4
  refine wpIn_cond (slot_eval h3 ht) ?_
  cases x
  · exact h2 rfl a w ⟨ρ, hr⟩
  · exact h1 rfl a w ⟨ρ, hr⟩
theorem wpIn_loop_ix {α : Type} {F : Fence} {n : Nat} {P : Program} {Q : Exit → Act → World → Prop} {c : Code} (I : α → Act → World → Prop) (μ : α → Nat)
    (round : ∀ x a w, I x a w → c.wpIn F n P (Exit.then (fun a' w' => ∃ y, I y a' w' ∧ μ y < μ x) Q) a w) (x : α) (a : Act) (w : World) (h₀ : I x a w) :
    (Code.loop c).wpIn F n P Q a w := by
  intro b k cs hro hb hr
  have key : ∀ j x a w, μ x = j → I x a w →
      ∃ e a' w', Q e a' w' ∧ ArrivesIn (Machine.fenced P F) P (lone (b.atR a (.code c :: .inLoop c :: k)) cs w) b k cs e a' w' := by
    intro j
    induction j using Nat.strongRecOn with
    | _ j ih =>
      intro x a w hn hI
      obtain ⟨e, a₁, w₁, hq, harr⟩ := round x a w hI b (.inLoop c :: k) cs hro hb hr
      cases e with
      | normal =>
        obtain ⟨y, hI₁, hlt⟩ := hq
        obtain ⟨e₂, a₂, w₂, hq₂, harr₂⟩ := ih (μ y) (hn ▸ hlt) y a₁ w₁ rfl hI₁
        exact ⟨e₂, a₂, w₂, hq₂, .of_steps (StepsIn.trans harr (.one (fenced_calm hb hr rfl) stepR_inLoop)) harr₂⟩
      | exit id => exact ⟨_, a₁, w₁, hq, .pass (x := .inLoop c) rfl (fun _ _ => .inl (by simp)) harr⟩
      | goto l => exact ⟨_, a₁, w₁, hq, .pass (x := .inLoop c) rfl (fun _ _ => .inl (by simp)) harr⟩
      | ret => exact ⟨_, a₁, w₁, hq, .pass (x := .inLoop c) rfl (fun _ _ => .inl (by simp)) harr⟩
      | panic ch => exact ⟨_, a₁, w₁, hq, .pass (x := .inLoop c) rfl (fun _ _ => .inl (by simp)) harr⟩
      | outgrown => exact ⟨_, a₁, w₁, hq, .pass (x := .inLoop c) rfl (fun _ _ => .inl (by simp)) harr⟩
  obtain ⟨e, a', w', hq, harr⟩ := key _ x a w rfl h₀
  exact ⟨e, a', w', hq, .of_steps (.one (fenced_calm hb hr rfl) stepR_loop) harr⟩
structure Sub (C : Ctx) (τ : Nat → Nat) (s s2 : AS) : Prop where
  env : ∀ t av, lk s2.E t = some av → lk s.E t = some (av.ren τ) ∨ av = .un
  heap : ∀ k bk, lk s2.H k = some bk → ∃ bk', lk s.H (τ k) = some bk' ∧ (match bk with
    | .blk t cs => bk' = .blk t (AV.renL τ cs)
    | .row t sz n cs => bk' = .row t sz n (AV.renL τ cs))
  inj : ∀ k k', lk s2.H k ≠ none → lk s2.H k' ≠ none → τ k = τ k' → k = k'
  bE : ∀ t av, lk s2.E t = some av → av.inS (· < s2.N)
  bH : ∀ k bk, lk s2.H k = some bk → k < s2.N ∧ bk.inS (· < s2.N)
  fix : ∀ k, C.fix k → k < s2.N ∧ τ k = k
mutual
theorem sim_ren {ρ : Nat → Value} {w : World} {O : Nat → Prop} (τ : Nat → Nat) : ∀ (x : AV) (v : Value), AV.sim ρ w O (x.ren τ) v ↔ AV.sim (fun k => ρ (τ k)) w O x v
  | .i _ _, _ | .b _, _ | .s _, _ | .nilp, _ | .nils, _ | .nilf, _ | .un, _ | .p _ _, _ | .row _, _ | .sl _ _ _, _ => by simp only [AV.ren, AV.sim]
  | .vs _ xs, _ | .rp xs, _ | .ag xs, _ | .tu xs, _ | .f _ xs, _ => by simp only [AV.ren, AV.sim, simL_ren τ xs]
theorem simL_ren {ρ : Nat → Value} {w : World} {O : Nat → Prop} (τ : Nat → Nat) : ∀ (xs : List AV) (vs : List Value), AV.simL ρ w O (AV.renL τ xs) vs ↔ AV.simL (fun k => ρ (τ k)) w O xs vs
  | [], vs => by cases vs <;> simp only [AV.renL, AV.simL]
  | x :: xs, [] => by simp only [AV.renL, AV.simL]
  | x :: xs, v :: vs => by simp only [AV.renL, AV.simL, sim_ren τ x, simL_ren τ xs]
end
theorem Sub.st {τ : Nat → Nat} {s2 : AS} (h : Sub C τ s s2) (hT : ∀ t, lk s2.E t = some .un → t < C.T ∧ t < 1000000) {a : Act} {w : World} (hs : St C s a w) : St C s2 a w := by
  obtain ⟨ρ, ⟨hE, hH, hX, hbE, hbH⟩, h1, h2, h3, h4, h5⟩ := hs
  have hown : ∀ b, owned (fun k => ρ (τ k)) (lk s2.H) b → owned ρ (lk s.H) b := by
    rintro b ⟨k, bk, hk, hb⟩
    obtain ⟨bk', h6, _⟩ := h.heap k bk hk
    exact ⟨τ k, bk', h6, hb⟩
  have hwm : ∀ (x : Addr) (u : Value), ¬ (C.X x.block ∨ owned ρ (lk s.H) x.block) → w.cell? x = some u → w.cell? x = some u ∧ ¬ (C.X x.block ∨ owned (fun k => ρ (τ k)) (lk s2.H) x.block) :=
    fun x u hn hc => ⟨hc, fun h' => hn (h'.imp id (hown _))⟩
  refine ⟨fun k => ρ (τ k), ⟨?_, ⟨?_, ?_, ?_⟩, hX, h.bE, h.bH⟩, h1, h2.sub (fun t ht he => ?_), h3, fun b hb => h4 b (hown b hb), fun k hk => ⟨(h.fix k hk).1, ?_⟩⟩
  · intro t av ht
    rcases h.env t av ht with h6 | rfl
    · obtain ⟨cv, h7, h8⟩ := hE t _ h6
      rw [sim_ren] at h8
      exact ⟨cv, h7, sim_mono (S := fun _ => True) hwm (fun _ _ => rfl) av cv (by have := h.bE t av ht; exact inS_mono (fun _ _ => trivial) av this) h8⟩
    · obtain ⟨h6, h7⟩ := hT t ht
      exact ⟨a.tmps[t]'(by omega), by unfold slot; rw [if_pos h7]; simp [h1, h6], by simp [AV.sim]⟩
  · intro k bk hk
    obtain ⟨bk', h6, h7⟩ := h.heap k bk hk
    have h8 := hH.ok _ _ h6
    have hb := (h.bH k bk hk).2
    cases bk with
    | blk t cs =>
      simp only at h7; subst h7
      obtain ⟨bl, cvs, h9, h10, h11⟩ := h8
      rw [simL_ren] at h11
      exact ⟨bl, cvs, h9, h10, simL_mono (S := fun _ => True) hwm (fun _ _ => rfl) _ _ (inSL_mono (fun _ _ => trivial) _ hb) h11⟩
    | row t sz n cs =>
      simp only at h7; subst h7
      obtain ⟨h0, h9⟩ := h8
      refine ⟨by simpa [renL_map] using h0, ?_⟩
      rcases h9 with h9 | ⟨bl, cap, cur, lo, hi, g1, g2, g3, g4, g5, g6, g7⟩
      · exact .inl h9
      · rw [simL_ren] at g7
        exact .inr ⟨bl, cap, cur, lo, hi, g1, g2, g3, g4, g5, g6, simL_mono (S := fun _ => True) hwm (fun _ _ => rfl) _ _ (inSL_mono (fun _ _ => trivial) _ hb) g7⟩
  · intro k k' b hk hk' hb hb'
    obtain ⟨bk, hbk⟩ := Option.ne_none_iff_exists'.1 hk
    obtain ⟨bk', hbk'⟩ := Option.ne_none_iff_exists'.1 hk'
    obtain ⟨c, hc, _⟩ := h.heap k bk hbk
    obtain ⟨c', hc', _⟩ := h.heap k' bk' hbk'
    exact h.inj k k' hk hk' (hH.dist _ _ b (by rw [hc]; simp) (by rw [hc']; simp) hb hb')
  · exact fun b hb => hH.apart b (hown b hb)
  · rcases h.env t _ he with h6 | h6
    · rw [h6]; simp [AV.ren, AV.renL]
    · cases h6
  · rw [(h.fix k hk).2]; exact (h5 k hk).2
end
end Go.Sk
namespace Go.Sk
open Go.RowKit
structure DStep where
  o : Oper
  skip : Bool
  pre : List (Nat × AV)
  ro : List (Nat × Blk)
  rd : List (Nat × Blk)
  wr : List (Nat × Blk)
  v : AV
structure OpC (C : Ctx) (s : AS) (o : Oper) (d : DStep) (s1 : AS) : Prop where
  op : d.o = o
  skip : d.skip = false
  tri : Tri C.P C.F C.n o d.pre d.ro d.rd d.wr d.v
  pre : ∀ t av, (t, av) ∈ d.pre → lk s.E t = some av
  ro : ∀ k b, (k, b) ∈ d.ro → lk s.H k = some b
  rd : ∀ k b, (k, b) ∈ d.rd → lk s.H k = some b
  dj : ∀ k, lk d.rd k ≠ none → lk d.ro k = none
  new : ∀ k, lk d.wr k ≠ none → lk d.rd k = none → s.N ≤ k ∧ k < s1.N
  N : s.N ≤ s1.N
  dst : ∀ t, o.dst = some t → t < C.T ∧ t < 1000000
  E1 : ∀ t, lk s1.E t = setE (lk s.E) o.dst d.v t
  H1 : ∀ k, lk s1.H k = upd (lk s.H) d.rd d.wr k
inductive OpR (C : Ctx) (ops : Array Oper) (s : AS) (o : Oper) : DStep → AS → Prop
  | plain {d : DStep} {s1 : AS} (hg : o.guard = none) (h : OpC C s o d s1) : OpR C ops s o d s1
  | yes {d : DStep} {s1 : AS} {j t : Nat} {want : Bool} (hg : o.guard = some (j, want)) (hj : (ops[j]?).bind (·.dst) = some t) (ht : t < 1000000) (he : lk s.E t = some (.b want)) (h : OpC C s o d s1) :
      OpR C ops s o { d with pre := (t, .b want) :: d.pre } s1
  | no {s1 : AS} {j t : Nat} {want x : Bool} (hg : o.guard = some (j, want)) (hj : (ops[j]?).bind (·.dst) = some t) (ht : t < 1000000) (he : lk s.E t = some (.b x)) (hx : x ≠ want)
      (hdst : ∀ t, o.dst = some t → t < C.T ∧ t < 1000000) (hE : ∀ t, lk s1.E t = setE (lk s.E) o.dst (.tu []) t) (hH : s1.H = s.H) (hN : s1.N = s.N) :
      OpR C ops s o { o := o, skip := true, pre := [(t, .b x)], ro := [], rd := [], wr := [], v := .tu [] } s1
  | noU {s1 : AS} {j t : Nat} {want : Bool} (hg : o.guard = some (j, want)) (hj : (ops[j]?).bind (·.dst) = some t) (ht : t < 1000000) (he : lk s.E t = some (.tu []))
      (hdst : ∀ t, o.dst = some t → t < C.T ∧ t < 1000000) (hE : ∀ t, lk s1.E t = setE (lk s.E) o.dst (.tu []) t) (hH : s1.H = s.H) (hN : s1.N = s.N) :
      OpR C ops s o { o := o, skip := true, pre := [(t, .tu [])], ro := [], rd := [], wr := [], v := .tu [] } s1
structure Step1 (C : Ctx) (ops : Array Oper) (d : DStep) : Prop where
  go : ∀ (S S' : Nat → Prop) (E : Env) (H : Heap) (ρ : Nat → Value) (a : Act) (w : World), StF C.X S E H ρ a w → a.tmps.size = C.T → Dfr C E a.defers w → Fr C.w0 C.O0 w →
    (∀ b, owned ρ H b → C.O0 b ∨ C.w0.heap.size ≤ b) → (∀ k, C.fix k → S k ∧ ρ k = C.ρ0 k) →
    (∀ t av, (t, av) ∈ d.pre → E t = some av) → (∀ k b, (k, b) ∈ d.ro → H k = some b) → (∀ k b, (k, b) ∈ d.rd → H k = some b) →
    (∀ k, lk d.wr k ≠ none → lk d.rd k = none → ¬ S k ∧ S' k) → (∀ k, S k → S' k) →
    ∀ (K : Act → World → Prop) (Q : Exit → Act → World → Prop),
    (∀ ρ' a' w', StF C.X S' (setE E d.o.dst d.v) (upd H d.rd d.wr) ρ' a' w' → a'.tmps.size = C.T → Dfr C (setE E d.o.dst d.v) a'.defers w' → Fr C.w0 C.O0 w' →
      (∀ b, owned ρ' (upd H d.rd d.wr) b → C.O0 b ∨ C.w0.heap.size ≤ b) → (∀ k, C.fix k → S' k ∧ ρ' k = C.ρ0 k) → K a' w') →
    if Region.wanted d.o (yielded ops a.tmps) then d.o.wpIn C.F C.n C.P a w K Q else K (a.put d.o.dst undef) w
theorem Oper.wpIn_conseq {F : Fence} {n : Nat} {P : Program} {o : Oper} {a : Act} {w : World} {K K' : Act → World → Prop} {Q Q' : Exit → Act → World → Prop}
    (hh : o.wpIn F n P a w K Q) (h : ∀ a w, K a w → K' a w) (hq : ∀ e a w, Q e a w → Q' e a w) : o.wpIn F n P a w K' Q' := by
  unfold Oper.wpIn at *
  refine ⟨hh.1, ?_⟩
  have hh := hh.2
  have hl : LetsOut Q → LetsOut Q' := fun ⟨a, w, q⟩ => ⟨a, w, hq _ _ _ q⟩
  generalize (o.semAt F.round a.eval).run P w = r at *
  cases r with
  | ok x w' =>
    cases x <;> simp only [Oper.uponIn] at hh ⊢ <;>
      first
        | exact h _ _ hh
        | exact ⟨hh.1, CallsIn.mono hh.2 (fun e w'' he => by cases e <;> first | exact h _ _ he | exact hq _ _ _ he | exact hl he)⟩
        | exact ⟨hh.1, RowsIn.mono hh.2 (fun _ _ he => h _ _ he)⟩
        | exact ⟨hh.1, RoundIn.mono hh.2 (fun e w'' he => by cases e <;> first | exact h _ _ he | exact hq _ _ _ he | exact hl he)⟩
  | halt x w' => cases x <;> simp only [Oper.uponIn] at hh ⊢ <;> first | exact hh | exact hq _ _ _ hh
theorem yielded_of {ops : Array Oper} {a : Act} {j t : Nat} {x : Bool} (hj : (ops[j]?).bind (·.dst) = some t) (h : slot a t = some (.bool x)) (ht : t < 1000000) : yielded ops a.tmps j = some x := by
  unfold yielded
  unfold slot at h
  rw [if_pos ht] at h
  rw [hj]; simp [h]
theorem sim_undef {ρ : Nat → Value} {w : World} {O : Nat → Prop} {v : Value} : (AV.tu []).sim ρ w O v ↔ v = undef := by
  simp only [AV.sim]
  constructor
  · rintro ⟨cvs, rfl, h⟩
    cases cvs with
    | nil => rfl
    | cons => simp [AV.simL] at h
  · rintro rfl; exact ⟨[], rfl, by simp [AV.simL]⟩
theorem yielded_none {ops : Array Oper} {a : Act} {j t : Nat} (hj : (ops[j]?).bind (·.dst) = some t) (h : slot a t = some undef) (ht : t < 1000000) : yielded ops a.tmps j = none := by
  unfold yielded
  unfold slot at h
  rw [if_pos ht] at h
  rw [hj]; simp [h, undef]
theorem OpR.step1 {C : Ctx} {ops : Array Oper} {s s1 : AS} {o : Oper} {d : DStep} (h : OpR C ops s o d s1) : Step1 C ops d := by
  have main : ∀ d : DStep, OpC C s o d s1 → ∀ (S S' : Nat → Prop) (E : Env) (H : Heap) (ρ : Nat → Value) (a : Act) (w : World), StF C.X S E H ρ a w → a.tmps.size = C.T → Dfr C E a.defers w → Fr C.w0 C.O0 w →
    (∀ b, owned ρ H b → C.O0 b ∨ C.w0.heap.size ≤ b) → (∀ k, C.fix k → S k ∧ ρ k = C.ρ0 k) →
    (∀ t av, (t, av) ∈ d.pre → E t = some av) → (∀ k b, (k, b) ∈ d.ro → H k = some b) → (∀ k b, (k, b) ∈ d.rd → H k = some b) →
    (∀ k, lk d.wr k ≠ none → lk d.rd k = none → ¬ S k ∧ S' k) → (∀ k, S k → S' k) →
    ∀ (K : Act → World → Prop) (Q : Exit → Act → World → Prop),
    (∀ ρ' a' w', StF C.X S' (setE E d.o.dst d.v) (upd H d.rd d.wr) ρ' a' w' → a'.tmps.size = C.T → Dfr C (setE E d.o.dst d.v) a'.defers w' → Fr C.w0 C.O0 w' →
      (∀ b, owned ρ' (upd H d.rd d.wr) b → C.O0 b ∨ C.w0.heap.size ≤ b) → (∀ k, C.fix k → S' k ∧ ρ' k = C.ρ0 k) → K a' w') →
    d.o.wpIn C.F C.n C.P a w K Q := by
    intro d hc S S' E H ρ a w hs hT hdf hfr hown hfix hpre hro hrd hnew hS K Q hK
    have ho := hc.op
    refine Oper.wpIn_conseq (Q := fun _ _ _ => False) (K := fun a' w' => ∃ ρ', StF C.X S' (setE E d.o.dst d.v) (upd H d.rd d.wr) ρ' a' w' ∧ a'.tmps.size = a.tmps.size ∧ a'.defers = a.defers ∧ (∀ k, S k → ρ' k = ρ k) ∧
      Fr w (owned ρ H) w' ∧ (∀ b, owned ρ' (upd H d.rd d.wr) b → owned ρ H b ∨ w.heap.size ≤ b)) ?_ ?_ (fun _ _ _ h => h.elim)
    · rw [ho]
      exact hc.tri.frame hs hpre hro hrd hc.dj hnew hS (fun t ht => by rw [hT]; exact hc.dst t ht)
    · rintro a' w' ⟨ρ', h1, h2, h3, h4, h5, h6⟩
      refine hK ρ' a' w' h1 (by rw [h2, hT]) (by rw [h3]; exact hdf.fr (fun t ht => (hc.dst t (by rw [← ho]; exact ht)).2) hs.hok h5) (hfr.trans h5 fun x hx ho => ?_) (fun b hb => ?_) (fun k hk => ⟨hS k (hfix k hk).1, by rw [h4 k (hfix k hk).1, (hfix k hk).2]⟩)
      · rcases hown x ho with h7 | h7
        · exact h7
        · omega
      · rcases h6 b hb with h7 | h7
        · exact hown b h7
        · have := hfr.size; right; omega
  cases h with
  | plain hg hc =>
    refine ⟨fun S S' E H ρ a w hs hT hdf hfr hown hfix hpre hro hrd hnew hS K Q hK => ?_⟩
    have ho := hc.op
    have hw : Region.wanted d.o (yielded ops a.tmps) = true := by rw [ho]; simp [Region.wanted, hg]
    rw [if_pos hw]
    exact main d hc S S' E H ρ a w hs hT hdf hfr hown hfix hpre hro hrd hnew hS K Q hK
  | @yes d0 _ j t want hg hj ht he hc =>
    refine ⟨fun S S' E H ρ a w hs hT hdf hfr hown hfix hpre hro hrd hnew hS K Q hK => ?_⟩
    have ho := hc.op
    have hE := hpre t (.b want) List.mem_cons_self
    obtain ⟨cv, h1, h2⟩ := hs.env t _ hE
    simp only [AV.sim] at h2
    subst h2
    have hw : Region.wanted d0.o (yielded ops a.tmps) = true := by rw [ho]; simp [Region.wanted, hg, yielded_of hj h1 ht]
    simp only at hpre hro hrd hnew hK ⊢
    rw [if_pos hw]
    exact main d0 hc S S' E H ρ a w hs hT hdf hfr hown hfix (fun t av hm => hpre t av (List.mem_cons_of_mem _ hm)) hro hrd hnew hS K Q hK
  | @no _ j t want x hg hj ht he hx hdst hE1 hH1 hN1 =>
    refine ⟨fun S S' E H ρ a w hs hT hdf hfr hown hfix hpre hro hrd hnew hS K Q hK => ?_⟩
    have hE := hpre t (.b x) List.mem_cons_self
    obtain ⟨cv, h1, h2⟩ := hs.env t _ hE
    simp only [AV.sim] at h2
    subst h2
    have hw : ¬ Region.wanted o (yielded ops a.tmps) = true := by simp [Region.wanted, hg, yielded_of hj h1 ht, hx]
    simp only at hK ⊢
    rw [if_neg hw]
    have hu : upd H [] [] = H := by funext k; simp [upd, lk]
    rw [hu] at hK
    refine hK ρ _ w ⟨?_, hs.hok, hs.hX, ?_, fun k bk hk => ⟨hS k (hs.bH k bk hk).1, inSL_mono hS _ (hs.bH k bk hk).2⟩⟩ (by rw [Act.put_tmps_size, hT]) (by rw [Act.put_defers']; exact hdf.set (fun t ht => (hdst t ht).2)) hfr hown (fun k hk => ⟨hS k (hfix k hk).1, (hfix k hk).2⟩)
    · intro u av hu
      unfold setE at hu
      split at hu
      · rename_i hd
        simp at hu; subst hu
        obtain ⟨h3, h4⟩ := hdst u hd
        exact ⟨undef, by rw [hd]; exact slot_put_eq a u undef (by rw [hT]; exact h3) h4, sim_undef.2 rfl⟩
      · rename_i hd
        obtain ⟨c2, h3, h4⟩ := hs.env u av hu
        exact ⟨c2, by rw [slot_put_ne a o.dst undef (fun y hy he => hd (by rw [hy, he]))]; exact h3, h4⟩
    · intro u av hu
      unfold setE at hu
      split at hu
      · simp at hu; subst hu; simp [AV.inS, AV.inSL]
      · exact inS_mono hS av (hs.bE u av hu)
  | @noU _ j t want hg hj ht he hdst hE1 hH1 hN1 =>
    refine ⟨fun S S' E H ρ a w hs hT hdf hfr hown hfix hpre hro hrd hnew hS K Q hK => ?_⟩
    have hE := hpre t (.tu []) List.mem_cons_self
    obtain ⟨cv, h1, h2⟩ := hs.env t _ hE
    rw [sim_undef] at h2
    subst h2
    have hw : ¬ Region.wanted o (yielded ops a.tmps) = true := by simp [Region.wanted, hg, yielded_none hj h1 ht]
    simp only at hK ⊢
    rw [if_neg hw]
    have hu : upd H [] [] = H := by funext k; simp [upd, lk]
    rw [hu] at hK
    refine hK ρ _ w ⟨?_, hs.hok, hs.hX, ?_, fun k bk hk => ⟨hS k (hs.bH k bk hk).1, inSL_mono hS _ (hs.bH k bk hk).2⟩⟩ (by rw [Act.put_tmps_size, hT]) (by rw [Act.put_defers']; exact hdf.set (fun t ht => (hdst t ht).2)) hfr hown (fun k hk => ⟨hS k (hfix k hk).1, (hfix k hk).2⟩)
    · intro u av hu
      unfold setE at hu
      split at hu
      · rename_i hd
        simp at hu; subst hu
        obtain ⟨h3, h4⟩ := hdst u hd
        exact ⟨undef, by rw [hd]; exact slot_put_eq a u undef (by rw [hT]; exact h3) h4, sim_undef.2 rfl⟩
      · rename_i hd
        obtain ⟨c2, h3, h4⟩ := hs.env u av hu
        exact ⟨c2, by rw [slot_put_ne a o.dst undef (fun y hy he => hd (by rw [hy, he]))]; exact h3, h4⟩
    · intro u av hu
      unfold setE at hu
      split at hu
      · simp at hu; subst hu; simp [AV.inS, AV.inSL]
      · exact inS_mono hS av (hs.bE u av hu)
theorem OpR.facts {C : Ctx} {ops : Array Oper} {s s1 : AS} {o : Oper} {d : DStep} (h : OpR C ops s o d s1) :
    d.o = o ∧ (∀ t av, (t, av) ∈ d.pre → lk s.E t = some av) ∧ (∀ k b, (k, b) ∈ d.ro → lk s.H k = some b) ∧ (∀ k b, (k, b) ∈ d.rd → lk s.H k = some b) ∧
    (∀ k, lk d.wr k ≠ none → lk d.rd k = none → s.N ≤ k ∧ k < s1.N) ∧ s.N ≤ s1.N ∧ (∀ t, lk s1.E t = setE (lk s.E) d.o.dst d.v t) ∧ (∀ k, lk s1.H k = upd (lk s.H) d.rd d.wr k) := by
  cases h with
  | plain hg hc => exact ⟨hc.op, hc.pre, hc.ro, hc.rd, hc.new, hc.N, by rw [hc.op]; exact hc.E1, hc.H1⟩
  | yes hg hj ht he hc =>
    refine ⟨hc.op, ?_, hc.ro, hc.rd, hc.new, hc.N, by simp only [hc.op]; exact hc.E1, hc.H1⟩
    intro t av hm
    rcases List.mem_cons.1 hm with h | h
    · cases h; exact he
    · exact hc.pre t av h
  | no hg hj ht he hx hdst hE1 hH1 hN1 =>
    refine ⟨rfl, ?_, by simp, by simp, by simp [lk], by omega, hE1, fun k => by simp [upd, lk, hH1]⟩
    intro t av hm
    simp at hm
    rw [hm.1, hm.2]; exact he
  | noU hg hj ht he hdst hE1 hH1 hN1 =>
    refine ⟨rfl, ?_, by simp, by simp, by simp [lk], by omega, hE1, fun k => by simp [upd, lk, hH1]⟩
    intro t av hm
    simp at hm
    rw [hm.1, hm.2]; exact he
def WL (C : Ctx) (ops : Array Oper) (l : List Oper) (Q : Exit → AS → Prop) (s : AS) : Prop :=
  ∀ a w, St C s a w → wpListIn C.F C.n C.P ops (fun e a' w' => ∃ s', Q e s' ∧ St C s' a' w') l a w
section
variable {C : Ctx} {Q : Exit → AS → Prop} {s : AS} (hF : ∀ f, C.F.fn f)
theorem W_region {id : Nat} {ops : Array Oper} (h : WL C ops ops.toList Q s) : W C (.region id ops false) Q s :=
  fun a w hs => wpIn_region_list (h a w hs)
theorem WL_nil {ops : Array Oper} (h : Q .normal s) : WL C ops [] Q s := fun _ _ hs => ⟨s, h, hs⟩
include hF in
theorem WL_cons {ops : Array Oper} {o : Oper} {l : List Oper} {d : DStep} {s1 : AS} (h : OpR C ops s o d s1) (hn : WL C ops l Q s1) : WL C ops (o :: l) Q s := by
  rintro a w ⟨ρ, h1, h2, h3, h4, h5, h6⟩
  obtain ⟨f1, f2, f3, f4, f5, f6, f7, f8⟩ := h.facts
  have hs := h.step1.go (· < s.N) (· < s1.N) (lk s.E) (lk s.H) ρ a w h1 h2 h3 h4 h5 h6 f2 f3 f4 (fun k hk hr => by have := f5 k hk hr; omega) (fun k hk => by omega)
    (wpListIn C.F C.n C.P ops (fun e a' w' => ∃ s', Q e s' ∧ St C s' a' w') l) (fun e a' w' => ∃ s', Q e s' ∧ St C s' a' w') (fun ρ' a' w' g1 g2 g3 g4 g5 g6 => hn a' w' ⟨ρ', by
      rw [show lk s1.E = setE (lk s.E) d.o.dst d.v from funext f7, show lk s1.H = upd (lk s.H) d.rd d.wr from funext f8]
      exact ⟨g1, g2, g3, g4, g5, g6⟩⟩)
  rw [f1] at hs
  unfold wpListIn
  split
  · rename_i hw; rw [if_pos hw] at hs; exact hs
  · rename_i hw; rw [if_neg hw] at hs; exact ⟨fun f _ => hF f, hs⟩
end
end Go.Sk
namespace Go.Sk
open Go.RowKit
inductive RunT (C : Ctx) (ops : Array Oper) : AS → List Oper → List DStep → AS → Prop
  | nil {s : AS} : RunT C ops s [] [] s
  | cons {s s1 s2 : AS} {o : Oper} {l : List Oper} {d : DStep} {ds : List DStep} (h : OpR C ops s o d s1) (r : RunT C ops s1 l ds s2) : RunT C ops s (o :: l) (d :: ds) s2
def DStep.tmpsR (d : DStep) : List Nat := d.pre.map Prod.fst
def DStep.keysT (d : DStep) : List Nat := (d.rd ++ d.wr).map Prod.fst
def DStep.keysU (d : DStep) : List Nat := (d.ro ++ (d.rd ++ d.wr)).map Prod.fst
def indepB (x y : DStep) : Bool :=
  (match x.o.dst with | some t => !y.tmpsR.contains t && y.o.dst != some t | none => true) &&
  (match y.o.dst with | some t => !x.tmpsR.contains t | none => true) &&
  x.keysT.all (fun k => !y.keysU.contains k) && y.keysT.all (fun k => !x.keysU.contains k)
def befs : List Oper → List (List Nat) → List (List Nat)
  | [], acc => acc
  | o :: l, acc => befs l (acc ++ [((o.after.toList.filter (Region.binds .any)).flatMap fun e => e.on :: acc.getD e.on []).eraseDups])
def drawOK (ops : List Oper) (ds : List DStep) : Bool :=
  let B := befs ops []
  (ops.zipIdx.all fun (o, j) => o.after.toList.all fun e => !Region.binds .any e || Nat.blt e.on j) &&
  ds.zipIdx.all fun (y, j) => ds.zipIdx.all fun (x, i) => !Nat.blt i j || (B.getD j []).contains i || indepB x y
def Closed (ops : List Oper) (D : Nat → Bool) : Prop := ∀ j o, ops[j]? = some o → D j = true → ∀ e ∈ o.after.toList, Region.binds .any e = true → D e.on = true
theorem befs_spec {all : List Oper} {D : Nat → Bool} (hD : Closed all D) : ∀ (l : List Oper) (acc : List (List Nat)), (∀ j, l[j]? = all[acc.length + j]?) →
    (∀ j, D j = true → ∀ i ∈ acc.getD j [], D i = true) → ∀ j, D j = true → ∀ i ∈ (befs l acc).getD j [], D i = true
  | [], acc, _, h => by simpa [befs] using h
  | o :: l, acc, hl, h => by
    rw [befs]
    refine befs_spec hD l _ (fun j => by have := hl (j + 1); simpa [Nat.add_assoc, Nat.add_comm 1 j] using this) ?_
    intro j hj i hi
    by_cases hlt : j < acc.length
    · rw [List.getD_eq_getElem?_getD, List.getElem?_append_left hlt, ← List.getD_eq_getElem?_getD] at hi
      exact h j hj i hi
    · by_cases he : j = acc.length
      · subst he
        have h0 : all[acc.length]? = some o := by have := hl 0; simpa using this.symm
        rw [List.getD_eq_getElem?_getD, List.getElem?_append_right (Nat.le_refl _)] at hi
        simp only [Nat.sub_self, List.getElem?_cons_zero, Option.getD_some, List.mem_eraseDups, List.mem_flatMap, List.mem_filter] at hi
        obtain ⟨e, ⟨he, hb⟩, hi⟩ := hi
        have hon := hD _ _ h0 hj e he hb
        rcases List.mem_cons.1 hi with rfl | hi
        · exact hon
        · exact h _ hon i hi
      · rw [List.getD_eq_getElem?_getD, List.getElem?_eq_none (by simp; omega)] at hi
        simp at hi
def runE (D : Nat → Bool) : Nat → List DStep → Env → Env
  | _, [], E => E
  | k, d :: r, E => runE D (k + 1) r (if D k then setE E d.o.dst d.v else E)
def runH (D : Nat → Bool) : Nat → List DStep → Heap → Heap
  | _, [], H => H
  | k, d :: r, H => runH D (k + 1) r (if D k then upd H d.rd d.wr else H)
theorem mem_of_lk {α : Type} {l : List (Nat × α)} {k : Nat} (h : lk l k ≠ none) : k ∈ l.map Prod.fst := by
  obtain ⟨v, hv⟩ := Option.ne_none_iff_exists'.1 h
  exact List.mem_map.2 ⟨(k, v), lk_mem hv, rfl⟩
theorem upd_ne {H : Heap} {d : DStep} {k : Nat} (h : k ∉ d.keysT) : upd H d.rd d.wr k = H k := by
  have h1 : lk d.wr k = none := by
    cases hc : lk d.wr k with
    | none => rfl
    | some v => exact absurd (by simp only [DStep.keysT, List.map_append, List.mem_append]; exact .inr (mem_of_lk (by rw [hc]; simp))) h
  have h2 : lk d.rd k = none := by
    cases hc : lk d.rd k with
    | none => rfl
    | some v => exact absurd (by simp only [DStep.keysT, List.map_append, List.mem_append]; exact .inl (mem_of_lk (by rw [hc]; simp))) h
  simp [upd, h1, h2]
theorem runE_ne {D : Nat → Bool} {t : Nat} : ∀ (ds : List DStep) (k : Nat) (E : Env), (∀ j d, ds[j]? = some d → D (k + j) = true → d.o.dst ≠ some t) → runE D k ds E t = E t
  | [], _, _, _ => rfl
  | d :: r, k, E, h => by
    rw [runE, runE_ne r (k + 1) _ fun j d hj hD => h (j + 1) d (by simpa using hj) (by rw [← hD]; congr 1; omega)]
    split
    · rename_i hk
      have := h 0 d (by simp) (by simpa using hk)
      simp [setE, this]
    · rfl
theorem runH_ne {D : Nat → Bool} {t : Nat} : ∀ (ds : List DStep) (k : Nat) (H : Heap), (∀ j d, ds[j]? = some d → D (k + j) = true → t ∉ d.keysT) → runH D k ds H t = H t
  | [], _, _, _ => rfl
  | d :: r, k, H, h => by
    rw [runH, runH_ne r (k + 1) _ fun j d hj hD => h (j + 1) d (by simpa using hj) (by rw [← hD]; congr 1; omega)]
    split
    · rename_i hk
      exact upd_ne (h 0 d (by simp) (by simpa using hk))
    · rfl
theorem runE_congr {D : Nat → Bool} : ∀ (ds : List DStep) (k : Nat) (E E' : Env), (∀ t, E t = E' t) → ∀ t, runE D k ds E t = runE D k ds E' t := by
  intro ds k E E' h t
  rw [show E = E' from funext h]
theorem runH_congr {D : Nat → Bool} : ∀ (ds : List DStep) (k : Nat) (E E' : Heap), (∀ t, E t = E' t) → ∀ t, runH D k ds E t = runH D k ds E' t := by
  intro ds k E E' h t
  rw [show E = E' from funext h]
theorem runE_late {D : Nat → Bool} {d : DStep} : ∀ (ds : List DStep) (k : Nat) (E : Env), (∀ j x, ds[j]? = some x → D (k + j) = true → ∀ t, d.o.dst = some t → x.o.dst ≠ some t) →
    ∀ t, runE D k ds (setE E d.o.dst d.v) t = setE (runE D k ds E) d.o.dst d.v t
  | [], _, _, _, _ => rfl
  | x :: r, k, E, h, t => by
    rw [runE, runE]
    have hr := runE_late (D := D) (d := d) r (k + 1) (if D k then setE E x.o.dst x.v else E) (fun j y hj hD => h (j + 1) y (by simpa using hj) (by rw [← hD]; congr 1; omega)) t
    rw [← hr]
    refine runE_congr r (k + 1) _ _ (fun u => ?_) t
    split
    · rename_i hk
      have h0 := h 0 x (by simp) (by simpa using hk)
      simp only [setE]
      split
      · rename_i hx
        have : d.o.dst ≠ some u := fun he => h0 u he hx
        rw [if_neg this]
      · rfl
    · rfl
theorem runH_late {D : Nat → Bool} {d : DStep} : ∀ (ds : List DStep) (k : Nat) (H : Heap), (∀ j x, ds[j]? = some x → D (k + j) = true → ∀ t ∈ d.keysT, t ∉ x.keysT) →
    ∀ t, runH D k ds (upd H d.rd d.wr) t = upd (runH D k ds H) d.rd d.wr t
  | [], _, _, _, _ => rfl
  | x :: r, k, H, h, t => by
    rw [runH, runH]
    have hr := runH_late (D := D) (d := d) r (k + 1) (if D k then upd H x.rd x.wr else H) (fun j y hj hD => h (j + 1) y (by simpa using hj) (by rw [← hD]; congr 1; omega)) t
    rw [← hr]
    refine runH_congr r (k + 1) _ _ (fun u => ?_) t
    split
    · rename_i hk
      have h0 := h 0 x (by simp) (by simpa using hk)
      by_cases hu : u ∈ d.keysT
      · rw [upd_ne (h0 u hu)]
        unfold upd
        split
        · rfl
        · split
          · rfl
          · symm; exact upd_ne (h0 u hu)
      · rw [upd_ne (H := upd H x.rd x.wr) hu]
        unfold upd
        split
        · rfl
        · split
          · rfl
          · exact upd_ne hu
    · rfl
def setD (D : Nat → Bool) (i : Nat) : Nat → Bool := fun j => if j = i then true else D j
theorem runE_same {D D' : Nat → Bool} : ∀ (ds : List DStep) (k : Nat) (E : Env), (∀ j, k ≤ j → D j = D' j) → runE D k ds E = runE D' k ds E
  | [], _, _, _ => rfl
  | d :: r, k, E, h => by rw [runE, runE, h k (Nat.le_refl _), runE_same r (k + 1) _ fun j hj => h j (by omega)]
theorem runH_same {D D' : Nat → Bool} : ∀ (ds : List DStep) (k : Nat) (E : Heap), (∀ j, k ≤ j → D j = D' j) → runH D k ds E = runH D' k ds E
  | [], _, _, _ => rfl
  | d :: r, k, E, h => by rw [runH, runH, h k (Nat.le_refl _), runH_same r (k + 1) _ fun j hj => h j (by omega)]
theorem runE_insert {D : Nat → Bool} {d : DStep} {i : Nat} (hi : D i = false) : ∀ (ds : List DStep) (k : Nat) (E : Env), k ≤ i → ds[i - k]? = some d →
    (∀ j x, i < k + j → ds[j]? = some x → D (k + j) = true → ∀ t, d.o.dst = some t → x.o.dst ≠ some t) →
    ∀ t, runE (setD D i) k ds E t = setE (runE D k ds E) d.o.dst d.v t
  | [], k, E, hk, h0, _, t => by simp at h0
  | x :: r, k, E, hk, h0, h, t => by
    rw [runE, runE]
    by_cases he : k = i
    · subst he
      simp at h0; subst h0
      rw [show setD D k k = true by simp [setD], hi]
      simp only [if_true, Bool.false_eq_true, if_false]
      rw [runE_same (D := setD D k) (D' := D) r (k + 1) _ fun j hj => by simp [setD]; omega]
      exact runE_late r (k + 1) E (fun j y hj hD => h (j + 1) y (by omega) (by simpa using hj) (by rw [← hD]; congr 1; omega)) t
    · rw [show setD D i k = D k by simp [setD, he]]
      exact runE_insert hi r (k + 1) _ (by omega) (by rw [show i - k = (i - (k + 1)) + 1 by omega] at h0; simpa using h0)
        (fun j y hlt hj hD => h (j + 1) y (by omega) (by simpa using hj) (by rw [← hD]; congr 1; omega)) t
theorem runH_insert {D : Nat → Bool} {d : DStep} {i : Nat} (hi : D i = false) : ∀ (ds : List DStep) (k : Nat) (E : Heap), k ≤ i → ds[i - k]? = some d →
    (∀ j x, i < k + j → ds[j]? = some x → D (k + j) = true → ∀ t ∈ d.keysT, t ∉ x.keysT) →
    ∀ t, runH (setD D i) k ds E t = upd (runH D k ds E) d.rd d.wr t
  | [], k, E, hk, h0, _, t => by simp at h0
  | x :: r, k, E, hk, h0, h, t => by
    rw [runH, runH]
    by_cases he : k = i
    · subst he
      simp at h0; subst h0
      rw [show setD D k k = true by simp [setD], hi]
      simp only [if_true, Bool.false_eq_true, if_false]
      rw [runH_same (D := setD D k) (D' := D) r (k + 1) _ fun j hj => by simp [setD]; omega]
      exact runH_late r (k + 1) E (fun j y hj hD => h (j + 1) y (by omega) (by simpa using hj) (by rw [← hD]; congr 1; omega)) t
    · rw [show setD D i k = D k by simp [setD, he]]
      exact runH_insert hi r (k + 1) _ (by omega) (by rw [show i - k = (i - (k + 1)) + 1 by omega] at h0; simpa using h0)
        (fun j y hlt hj hD => h (j + 1) y (by omega) (by simpa using hj) (by rw [← hD]; congr 1; omega)) t
section
variable {C : Ctx} {ops : Array Oper}
theorem RunT.opers : ∀ {s : AS} {l : List Oper} {ds : List DStep} {s2 : AS}, RunT C ops s l ds s2 → ds.map (·.o) = l
  | _, _, _, _, .nil => rfl
  | _, _, _, _, .cons h r => by simp [h.facts.1, r.opers]
theorem RunT.lookE {D : Nat → Bool} {i : Nat} {d : DStep} {t : Nat} {av : AV} (hm : (t, av) ∈ d.pre) : ∀ {s : AS} {l : List Oper} {ds : List DStep} {s2 : AS}, RunT C ops s l ds s2 →
    ∀ (k : Nat) (E : Env), k ≤ i → ds[i - k]? = some d → E t = lk s.E t → D i = false →
    (∀ j x, k + j < i → ds[j]? = some x → D (k + j) = false → x.o.dst ≠ some t) → (∀ j x, i < k + j → ds[j]? = some x → D (k + j) = true → x.o.dst ≠ some t) →
    runE D k ds E t = some av
  | _, _, _, _, .nil => fun k E hk h0 => by simp at h0
  | s, _, _, _, .cons (s1 := s1) (d := d0) (ds := ds) h r => fun k E hk h0 hE hi hb ha => by
    obtain ⟨f1, f2, _, _, _, _, f7, _⟩ := h.facts
    by_cases he : k = i
    · subst he
      simp at h0; subst h0
      rw [runE_ne _ k E (fun j x hj hD hc => ?_), hE, f2 t av hm]
      cases j with
      | zero => rw [Nat.add_zero, hi] at hD; cases hD
      | succ j => exact ha (j + 1) x (by omega) hj hD hc
    · rw [runE]
      refine r.lookE hm (k + 1) _ (by omega) (by rw [show i - k = (i - (k + 1)) + 1 by omega] at h0; simpa using h0) ?_ hi
        (fun j x hlt hj hD => hb (j + 1) x (by omega) (by simpa using hj) (by rw [← hD]; congr 1; omega))
        (fun j x hlt hj hD => ha (j + 1) x (by omega) (by simpa using hj) (by rw [← hD]; congr 1; omega))
      rw [f7]
      split
      · simp only [setE, hE]
      · rename_i hk'
        have := hb 0 d0 (by omega) (by simp) (by simpa using hk')
        simp only [setE, if_neg this, hE]
theorem RunT.lookH {D : Nat → Bool} {i : Nat} {d : DStep} {t : Nat} {bk : Blk} (hm : (t, bk) ∈ d.ro ∨ (t, bk) ∈ d.rd) : ∀ {s : AS} {l : List Oper} {ds : List DStep} {s2 : AS}, RunT C ops s l ds s2 →
    ∀ (k : Nat) (H : Heap), k ≤ i → ds[i - k]? = some d → H t = lk s.H t → D i = false →
    (∀ j x, k + j < i → ds[j]? = some x → D (k + j) = false → t ∉ x.keysT) → (∀ j x, i < k + j → ds[j]? = some x → D (k + j) = true → t ∉ x.keysT) →
    runH D k ds H t = some bk
  | _, _, _, _, .nil => fun k E hk h0 => by simp at h0
  | s, _, _, _, .cons (s1 := s1) (d := d0) (ds := ds) h r => fun k H hk h0 hE hi hb ha => by
    obtain ⟨f1, _, f3, f4, _, _, _, f8⟩ := h.facts
    by_cases he : k = i
    · subst he
      simp at h0; subst h0
      rw [runH_ne _ k H (fun j x hj hD hc => ?_), hE]
      · rcases hm with hm | hm
        · exact f3 t bk hm
        · exact f4 t bk hm
      · cases j with
        | zero => rw [Nat.add_zero, hi] at hD; cases hD
        | succ j => exact ha (j + 1) x (by omega) hj hD hc
    · rw [runH]
      refine r.lookH hm (k + 1) _ (by omega) (by rw [show i - k = (i - (k + 1)) + 1 by omega] at h0; simpa using h0) ?_ hi
        (fun j x hlt hj hD => hb (j + 1) x (by omega) (by simpa using hj) (by rw [← hD]; congr 1; omega))
        (fun j x hlt hj hD => ha (j + 1) x (by omega) (by simpa using hj) (by rw [← hD]; congr 1; omega))
      rw [f8]
      split
      · unfold upd; rw [hE]
      · rename_i hk'
        rw [upd_ne (hb 0 d0 (by omega) (by simp) (by simpa using hk')), hE]
theorem RunT.allE : ∀ {s : AS} {l : List Oper} {ds : List DStep} {s2 : AS} {D : Nat → Bool}, RunT C ops s l ds s2 → ∀ (k : Nat) (E : Env), (∀ j, j < ds.length → D (k + j) = true) → (∀ t, E t = lk s.E t) →
    ∀ t, runE D k ds E t = lk s2.E t
  | _, _, _, _, _, .nil => fun _ _ _ h => h
  | _, _, _, _, D, .cons h r => fun k E hD hE t => by
    obtain ⟨_, _, _, _, _, _, f7, _⟩ := h.facts
    rw [runE]
    refine r.allE (k + 1) _ (fun j hj => by rw [Nat.add_assoc, Nat.add_comm 1 j]; exact hD (j + 1) (by simpa using hj)) (fun u => ?_) t
    rw [f7, if_pos (by simpa using hD 0 (by simp)), show E = _ from funext hE]
theorem RunT.allH : ∀ {s : AS} {l : List Oper} {ds : List DStep} {s2 : AS} {D : Nat → Bool}, RunT C ops s l ds s2 → ∀ (k : Nat) (E : Heap), (∀ j, j < ds.length → D (k + j) = true) → (∀ t, E t = lk s.H t) →
    ∀ t, runH D k ds E t = lk s2.H t
  | _, _, _, _, _, .nil => fun _ _ _ h => h
  | _, _, _, _, D, .cons h r => fun k E hD hE t => by
    obtain ⟨_, _, _, _, _, _, _, f8⟩ := h.facts
    rw [runH]
    refine r.allH (k + 1) _ (fun j hj => by rw [Nat.add_assoc, Nat.add_comm 1 j]; exact hD (j + 1) (by simpa using hj)) (fun u => ?_) t
    rw [f8, if_pos (by simpa using hD 0 (by simp)), show E = _ from funext hE]
def newK (d : DStep) (k : Nat) : Prop := lk d.wr k ≠ none ∧ lk d.rd k = none
theorem RunT.newB : ∀ {s : AS} {l : List Oper} {ds : List DStep} {s2 : AS}, RunT C ops s l ds s2 → s.N ≤ s2.N ∧ ∀ (i : Nat) (d : DStep) (k : Nat), ds[i]? = some d → newK d k → s.N ≤ k ∧ k < s2.N
  | _, _, _, _, .nil => ⟨Nat.le_refl _, fun i d k h => by simp at h⟩
  | _, _, _, _, .cons h r => by
    obtain ⟨_, _, _, _, f5, f6, _, _⟩ := h.facts
    obtain ⟨g1, g2⟩ := r.newB
    refine ⟨by omega, fun i d k hi hk => ?_⟩
    cases i with
    | zero => simp at hi; subst hi; have := f5 k hk.1 hk.2; omega
    | succ i => have := g2 i d k (by simpa using hi) hk; omega
theorem RunT.newD : ∀ {s : AS} {l : List Oper} {ds : List DStep} {s2 : AS}, RunT C ops s l ds s2 → ∀ (i j : Nat) (d d' : DStep) (k k' : Nat), i < j → ds[i]? = some d → ds[j]? = some d' → newK d k → newK d' k' → k < k'
  | _, _, _, _, .nil => fun i j d d' k k' _ h => by simp at h
  | _, _, _, _, .cons h r => fun i j d d' k k' hlt hi hj hk hk' => by
    obtain ⟨_, _, _, _, f5, f6, _, _⟩ := h.facts
    cases j with
    | zero => omega
    | succ j =>
      cases i with
      | zero =>
        simp at hi; subst hi
        have h1 := f5 k hk.1 hk.2
        have h2 := r.newB.2 j d' k' (by simpa using hj) hk'
        omega
      | succ i => exact r.newD i j d d' k k' (by omega) (by simpa using hi) (by simpa using hj) hk hk'
theorem RunT.step : ∀ {s : AS} {l : List Oper} {ds : List DStep} {s2 : AS}, RunT C ops s l ds s2 → ∀ (i : Nat) (d : DStep), ds[i]? = some d → Step1 C ops d
  | _, _, _, _, .nil => fun i d h => by simp at h
  | _, _, _, _, .cons h r => fun i d hi => by
    cases i with
    | zero => simp at hi; subst hi; exact h.step1
    | succ i => exact r.step i d (by simpa using hi)
end
theorem indepB_spec {x y : DStep} (h : indepB x y = true) :
    (∀ t, x.o.dst = some t → t ∉ y.tmpsR ∧ y.o.dst ≠ some t) ∧ (∀ t, y.o.dst = some t → t ∉ x.tmpsR) ∧ (∀ k ∈ x.keysT, k ∉ y.keysU) ∧ (∀ k ∈ y.keysT, k ∉ x.keysU) := by
  simp only [indepB, Bool.and_eq_true] at h
  obtain ⟨⟨⟨h1, h2⟩, h3⟩, h4⟩ := h
  refine ⟨fun t ht => ?_, fun t ht => ?_, fun k hk => ?_, fun k hk => ?_⟩
  · rw [ht] at h1; simpa using h1
  · rw [ht] at h2; simpa using h2
  · have := List.all_eq_true.1 h3 k hk; simpa using this
  · have := List.all_eq_true.1 h4 k hk; simpa using this
theorem keysT_sub_U {d : DStep} {k : Nat} (h : k ∈ d.keysT) : k ∈ d.keysU := by
  simp only [DStep.keysT, DStep.keysU, List.map_append, List.mem_append] at *; exact .inr h
theorem drawOK_spec {ops : List Oper} {ds : List DStep} (h : drawOK ops ds = true) :
    (∀ j o, ops[j]? = some o → ∀ e ∈ o.after.toList, Region.binds .any e = true → e.on < j) ∧
    ∀ i j x y, i < j → ds[i]? = some x → ds[j]? = some y → i ∈ (befs ops []).getD j [] ∨ indepB x y = true := by
  simp only [drawOK, Bool.and_eq_true] at h
  obtain ⟨h1, h2⟩ := h
  refine ⟨fun j o hj e he hb => ?_, fun i j x y hlt hi hj => ?_⟩
  · have := List.all_eq_true.1 h1 (o, j) (List.mem_zipIdx_iff_getElem?.2 hj)
    have := List.all_eq_true.1 this e he
    rw [hb] at this
    simpa [Nat.blt_eq] using this
  · have := List.all_eq_true.1 h2 (y, j) (List.mem_zipIdx_iff_getElem?.2 hj)
    have := List.all_eq_true.1 this (x, i) (List.mem_zipIdx_iff_getElem?.2 hi)
    have hb : Nat.blt i j = true := by rw [Nat.blt_eq]; exact hlt
    simp only [hb, Bool.not_true, Bool.false_or, Bool.or_eq_true] at this
    rcases this with h | h
    · exact .inl (by simpa using h)
    · exact .inr h
theorem befs_lt_aux : ∀ (l : List Oper) (acc : List (List Nat)), (∀ j o, l[j]? = some o → ∀ e ∈ o.after.toList, Region.binds .any e = true → e.on < acc.length + j) →
    (∀ j, ∀ i ∈ acc.getD j [], i < j) → ∀ j, ∀ i ∈ (befs l acc).getD j [], i < j
  | [], acc, _, h => by simpa [befs] using h
  | o :: l, acc, hb, h => by
    rw [befs]
    refine befs_lt_aux l _ (fun j p hp e he hbi => by have := hb (j + 1) p (by simpa using hp) e he hbi; simp; omega) ?_
    intro j i hi
    by_cases hlt : j < acc.length
    · rw [List.getD_eq_getElem?_getD, List.getElem?_append_left hlt, ← List.getD_eq_getElem?_getD] at hi
      exact h j i hi
    · by_cases he : j = acc.length
      · subst he
        rw [List.getD_eq_getElem?_getD, List.getElem?_append_right (Nat.le_refl _)] at hi
        simp only [Nat.sub_self, List.getElem?_cons_zero, Option.getD_some, List.mem_eraseDups, List.mem_flatMap, List.mem_filter] at hi
        obtain ⟨e, ⟨he, hbi⟩, hi⟩ := hi
        have h1 := hb 0 o (by simp) e he hbi
        rcases List.mem_cons.1 hi with rfl | hi
        · simpa using h1
        · have := h _ i hi; simp at h1; omega
      · rw [List.getD_eq_getElem?_getD, List.getElem?_eq_none (by simp; omega)] at hi
        simp at hi
theorem befs_lt (ops : List Oper) (hback : ∀ (j : Nat) (o : Oper), ops[j]? = some o → ∀ e ∈ o.after.toList, Region.binds .any e = true → e.on < j) :
    ∀ j, ∀ i ∈ (befs ops []).getD j [], i < j := befs_lt_aux ops [] (fun j o ho e he hb => by simpa using hback j o ho e he hb) (by simp)
theorem getD_both' {listed : Array Bool} {i : Nat} (h : listed.getD i true = false) : listed.getD i false = false := by
  rcases Nat.lt_or_ge i listed.size with h' | h'
  · simp [h'] at h ⊢; exact h
  · simp [Array.getElem?_eq_none h'] at h
theorem getD_replicate_false' (m j : Nat) : (Array.replicate m false).getD j false = false := by
  rcases Nat.lt_or_ge j m with h | h
  · simp [h]
  · simp [h]
theorem ready_iff {ops : Array Oper} {listed : Array Bool} {i : Nat} : i ∈ Region.ready .any ops listed ↔
    i < ops.size ∧ listed.getD i true = false ∧ ∀ o, ops[i]? = some o → ∀ e ∈ o.after.toList, Region.binds .any e = true → listed.getD e.on false = true := by
  unfold Region.ready
  simp only [List.mem_filter, List.mem_range, Bool.and_eq_true, Bool.not_eq_true']
  constructor
  · rintro ⟨h1, h2, h3⟩
    refine ⟨h1, h2, fun o ho e he hb => ?_⟩
    rw [ho] at h3
    simp only [Option.map_some, Option.getD_some, Array.all_eq_true_iff_forall_mem, Bool.or_eq_true, Bool.not_eq_true'] at h3
    rcases h3 e (Array.mem_toList_iff.1 he) with h | h
    · rw [hb] at h; cases h
    · exact h
  · rintro ⟨h1, h2, h3⟩
    refine ⟨h1, h2, ?_⟩
    have ho : ops[i]? = some ops[i] := by simp [h1]
    rw [ho]
    simp only [Option.map_some, Option.getD_some, Array.all_eq_true_iff_forall_mem, Bool.or_eq_true, Bool.not_eq_true']
    intro e he
    cases hb : Region.binds .any e with
    | false => exact .inl rfl
    | true => exact .inr (h3 _ ho e (Array.mem_toList_iff.2 he) hb)
theorem StF.drawn {X S : Nat → Prop} {E : Env} {H : Heap} {ρ : Nat → Value} {a : Act} {w : World} (h : StF X S E H ρ a w) (m : Nat) : StF X S E H ρ a { w with drawn := m } := by
  have hwm : ∀ (x : Addr) (u : Value), ¬ (X x.block ∨ owned ρ H x.block) → w.cell? x = some u → ({ w with drawn := m } : World).cell? x = some u ∧ ¬ (X x.block ∨ owned ρ H x.block) := fun x u hn hc => ⟨hc, hn⟩
  refine ⟨fun t av ht => ?_, ⟨fun k bk hk => ?_, h.hok.dist, h.hok.apart⟩, h.hX, h.bE, h.bH⟩
  · obtain ⟨cv, h1, h2⟩ := h.env t av ht
    exact ⟨cv, h1, sim_mono (S := S) hwm (fun _ _ => rfl) av cv (h.bE t av ht) h2⟩
  · exact Blk.ok_mono (w := w) (w' := { w with drawn := m }) (O := fun b => X b ∨ owned ρ H b) (O' := fun b => X b ∨ owned ρ H b) (S := S) hwm (fun _ _ => rfl) (h.bH k bk hk).1 (fun _ _ _ => rfl) bk (h.bH k bk hk).2 (h.hok.ok k bk hk)
section
variable {C : Ctx} {ops : Array Oper} {s s2 : AS} {ds : List DStep} {Q : Exit → AS → Prop}
def SD (N : Nat) (ds : List DStep) (D : Nat → Bool) (k : Nat) : Prop := k < N ∨ ∃ i d, ds[i]? = some d ∧ D i = true ∧ newK d k
theorem getD_set {listed : Array Bool} {i : Nat} (hi : i < listed.size) (j : Nat) : (listed.setIfInBounds i true).getD j false = setD (fun j => listed.getD j false) i j := by
  simp only [setD, Array.getD_eq_getD_getElem?]
  by_cases h : j = i
  · subst h; simp [hi]
  · rw [if_neg h, Array.getElem?_setIfInBounds_ne (Ne.symm h)]
theorem any_main (hF : ∀ f, C.F.fn f) (hr : RunT C ops s ops.toList ds s2) (hk : drawOK ops.toList ds = true) (hq : Q .normal s2) :
    ∀ (fuel : Nat) (listed : Array Bool) (a : Act) (w : World), listed.size = ops.size → Closed ops.toList (fun i => listed.getD i false) →
      ((List.range ops.size).filter fun i => !listed.getD i false).length ≤ fuel →
      (∃ ρ, StF C.X (SD s.N ds fun i => listed.getD i false) (runE (fun i => listed.getD i false) 0 ds (lk s.E)) (runH (fun i => listed.getD i false) 0 ds (lk s.H)) ρ a w ∧
        a.tmps.size = C.T ∧ Dfr C (runE (fun i => listed.getD i false) 0 ds (lk s.E)) a.defers w ∧ Fr C.w0 C.O0 w ∧ (∀ b, owned ρ (runH (fun i => listed.getD i false) 0 ds (lk s.H)) b → C.O0 b ∨ C.w0.heap.size ≤ b) ∧
        (∀ k, C.fix k → k < s.N ∧ ρ k = C.ρ0 k)) →
      wpAnyIn C.F C.n C.P .any ops (fun e a' w' => ∃ s', Q e s' ∧ St C s' a' w') fuel listed a w := by
  have hlen : ds.length = ops.size := by have := congrArg List.length hr.opers; simpa using this
  obtain ⟨hback, hind⟩ := drawOK_spec hk
  -- where nothing is ready all is done
  have hend : ∀ (listed : Array Bool) (a : Act) (w : World), listed.size = ops.size → Region.ready .any ops listed = [] →
      (∃ ρ, StF C.X (SD s.N ds fun i => listed.getD i false) (runE (fun i => listed.getD i false) 0 ds (lk s.E)) (runH (fun i => listed.getD i false) 0 ds (lk s.H)) ρ a w ∧
        a.tmps.size = C.T ∧ Dfr C (runE (fun i => listed.getD i false) 0 ds (lk s.E)) a.defers w ∧ Fr C.w0 C.O0 w ∧ (∀ b, owned ρ (runH (fun i => listed.getD i false) 0 ds (lk s.H)) b → C.O0 b ∨ C.w0.heap.size ≤ b) ∧
        (∀ k, C.fix k → k < s.N ∧ ρ k = C.ρ0 k)) → ∃ s', Q .normal s' ∧ St C s' a w := by
    rintro listed a w hsz hnil ⟨ρ, h1, h2, h3, h4, h5, h6⟩
    have hall : ∀ i, i < ops.size → listed.getD i false = true := by
      intro i
      induction i using Nat.strongRecOn with
      | _ i ih =>
        intro hi
        cases hl : listed.getD i false with
        | true => rfl
        | false =>
          exfalso
          have : i ∈ Region.ready .any ops listed := by
            refine ready_iff.2 ⟨hi, ?_, fun o ho e he hb => ?_⟩
            · simp only [Array.getD_eq_getD_getElem?] at hl ⊢
              rw [Array.getElem?_eq_getElem (by omega)] at hl ⊢
              exact hl
            · have hlt := hback i o (by simpa using ho) e he hb
              exact ih e.on hlt (by omega)
          rw [hnil] at this; cases this
    have hE : ∀ t, runE (fun i => listed.getD i false) 0 ds (lk s.E) t = lk s2.E t := hr.allE 0 _ (fun j hj => by rw [Nat.zero_add]; exact hall j (by omega)) (fun _ => rfl)
    have hH : ∀ t, runH (fun i => listed.getD i false) 0 ds (lk s.H) t = lk s2.H t := hr.allH 0 _ (fun j hj => by rw [Nat.zero_add]; exact hall j (by omega)) (fun _ => rfl)
    rw [show runE (fun i => listed.getD i false) 0 ds (lk s.E) = lk s2.E from funext hE, show runH (fun i => listed.getD i false) 0 ds (lk s.H) = lk s2.H from funext hH] at h1
    rw [show runE (fun i => listed.getD i false) 0 ds (lk s.E) = lk s2.E from funext hE] at h3
    rw [show runH (fun i => listed.getD i false) 0 ds (lk s.H) = lk s2.H from funext hH] at h5
    have hN := hr.newB
    have hS : ∀ k, SD s.N ds (fun i => listed.getD i false) k → k < s2.N := by
      rintro k (h | ⟨i, d, hi, _, hn⟩)
      · omega
      · exact (hN.2 i d k hi hn).2
    exact ⟨s2, hq, ρ, ⟨⟨h1.env, h1.hok, h1.hX, fun t av ht => inS_mono hS av (h1.bE t av ht), fun k bk hk => ⟨hS k (h1.bH k bk hk).1, inSL_mono hS _ (h1.bH k bk hk).2⟩⟩,
      h2, h3, h4, h5, fun k hk => ⟨by have := (h6 k hk).1; omega, (h6 k hk).2⟩⟩⟩
  intro fuel
  induction fuel with
  | zero =>
    intro listed a w hsz hcl hcnt hst
    have hnil : Region.ready .any ops listed = [] := by
      cases hc : Region.ready .any ops listed with
      | nil => rfl
      | cons i r =>
        exfalso
        have hm : i ∈ Region.ready .any ops listed := by rw [hc]; exact List.mem_cons_self
        obtain ⟨h1, h2, _⟩ := ready_iff.1 hm
        have : i ∈ (List.range ops.size).filter fun i => !listed.getD i false := by
          simp only [List.mem_filter, List.mem_range, Bool.not_eq_true']
          exact ⟨h1, getD_both' h2⟩
        rw [List.eq_nil_of_length_eq_zero (Nat.le_zero.1 hcnt)] at this
        cases this
    exact ⟨hnil, hend listed a w hsz hnil hst⟩
  | succ fuel ih =>
    intro listed a w hsz hcl hcnt hst
    refine ⟨fun hnil => hend listed a w hsz hnil hst, fun i hi => ?_⟩
    obtain ⟨hi1, hi2, hi3⟩ := ready_iff.1 hi
    have hDi : listed.getD i false = false := getD_both' hi2
    obtain ⟨ρ, h1, h2, h3, h4, h5, h6⟩ := hst
    have hil : i < ds.length := by omega
    obtain ⟨d, hd⟩ : ∃ d, ds[i]? = some d := ⟨ds[i], by simp [hil]⟩
    have hops := hr.opers
    have hoi : ops[i]? = some d.o := by
      have : (ds.map (·.o))[i]? = some d.o := by simp [hd]
      rw [hops] at this; simpa using this
    have hopj : ∀ (j : Nat) (x : DStep), ds[j]? = some x → ops.toList[j]? = some x.o := by
      intro j x hj
      have : (ds.map (·.o))[j]? = some x.o := by simp [hj]
      rw [hops] at this; exact this
    have hcb := befs_spec hcl ops.toList [] (by simp) (by simp)
    -- an earlier one that is not done, a later one that is: each is independent
    have hearly : ∀ (j : Nat) (x : DStep), j < i → ds[j]? = some x → listed.getD j false = false → indepB x d = true := by
      intro j x hlt hj hD
      rcases hind j i x d hlt hj hd with hb | hb
      · exfalso
        have hi' : ∀ k ∈ (befs ops.toList []).getD i [], listed.getD k false = true := by
          -- what is behind i is done
          have hcl' : Closed ops.toList (fun k => if k = i then true else listed.getD k false) := by
            intro k o hko hk e he hbi
            by_cases hki : k = i
            · subst hki
              have := hi3 o (by simpa using hko) e he hbi
              simp only; split <;> first | rfl | exact this
            · simp only [if_neg hki] at hk
              have := hcl k o hko hk e he hbi
              simp only at this ⊢; split <;> first | rfl | exact this
          have := befs_spec hcl' ops.toList [] (by simp) (by simp) i (by simp)
          intro k hk
          have h7 := this k hk
          by_cases hki : k = i
          · subst hki
            -- i before itself: its edges lead back, to what is done
            exfalso
            have hlow : ∀ m, ∀ k ∈ (befs ops.toList []).getD m [], k < m := by
              have := befs_lt ops.toList hback
              exact this
            exact absurd (hlow k k hk) (by omega)
          · simpa [hki] using h7
        rw [hi' j hb] at hD; cases hD
      · exact hb
    have hlate : ∀ (j : Nat) (x : DStep), i < j → ds[j]? = some x → listed.getD j false = true → indepB d x = true := by
      intro j x hlt hj hD
      rcases hind i j d x hlt hd hj with hb | hb
      · exfalso
        have h9 : listed.getD i false = true := hcb j hD i hb
        rw [hDi] at h9; cases h9
      · exact hb
    have hpre : ∀ t av, (t, av) ∈ d.pre → runE (fun i => listed.getD i false) 0 ds (lk s.E) t = some av := by
      intro t av hm
      refine hr.lookE (i := i) (d := d) hm 0 _ (Nat.zero_le _) (by simpa using hd) rfl hDi (fun j x hlt hj hD hc => ?_) (fun j x hlt hj hD hc => ?_)
      · rw [Nat.zero_add] at hlt hD
        exact ((indepB_spec (hearly j x hlt hj hD)).1 t hc).1 (List.mem_map.2 ⟨(t, av), hm, rfl⟩)
      · rw [Nat.zero_add] at hlt hD
        exact (indepB_spec (hlate j x hlt hj hD)).2.1 t hc (List.mem_map.2 ⟨(t, av), hm, rfl⟩)
    have hkey : ∀ t b, (t, b) ∈ d.ro ∨ (t, b) ∈ d.rd → runH (fun i => listed.getD i false) 0 ds (lk s.H) t = some b := by
      intro t b hm
      have hu : t ∈ d.keysU := by
        simp only [DStep.keysU, List.map_append, List.mem_append, List.mem_map]
        rcases hm with hm | hm
        · exact .inl ⟨(t, b), hm, rfl⟩
        · exact .inr (.inl ⟨(t, b), hm, rfl⟩)
      refine hr.lookH (i := i) (d := d) hm 0 _ (Nat.zero_le _) (by simpa using hd) rfl hDi (fun j x hlt hj hD hc => ?_) (fun j x hlt hj hD hc => ?_)
      · rw [Nat.zero_add] at hlt hD
        exact (indepB_spec (hearly j x hlt hj hD)).2.2.1 t hc hu
      · rw [Nat.zero_add] at hlt hD
        exact (indepB_spec (hlate j x hlt hj hD)).2.2.2 t hc hu
    have hD' : (fun j => (listed.setIfInBounds i true).getD j false) = setD (fun j => listed.getD j false) i := funext fun j => getD_set (by omega) j
    have hnewS : ∀ k, newK d k → ¬ SD s.N ds (fun i => listed.getD i false) k ∧ SD s.N ds (setD (fun i => listed.getD i false) i) k := by
      intro k hk
      refine ⟨?_, .inr ⟨i, d, hd, by simp [setD], hk⟩⟩
      rintro (h | ⟨j, x, hj, hDj, hx⟩)
      · have := (hr.newB.2 i d k hd hk).1; omega
      · rcases Nat.lt_trichotomy i j with hlt | rfl | hlt
        · exact absurd (hr.newD i j d x k k hlt hd hj hk hx) (by omega)
        · simp only at hDj; rw [hDi] at hDj; cases hDj
        · exact absurd (hr.newD j i x d k k hlt hj hd hx hk) (by omega)
    have hSS : ∀ k, SD s.N ds (fun i => listed.getD i false) k → SD s.N ds (setD (fun i => listed.getD i false) i) k := by
      rintro k (h | ⟨j, x, hj, hDj, hx⟩)
      · exact .inl h
      · refine .inr ⟨j, x, hj, ?_, hx⟩
        unfold setD; split <;> first | rfl | exact hDj
    have hstep := (hr.step i d hd).go _ _ _ _ ρ a w h1 h2 h3 h4 h5 (fun k hk => ⟨.inl (h6 k hk).1, (h6 k hk).2⟩) hpre (fun k b hm => hkey k b (.inl hm)) (fun k b hm => hkey k b (.inr hm))
      (fun k g1 g2 => hnewS k ⟨g1, g2⟩) hSS (wpAnyIn C.F C.n C.P .any ops (fun e a' w' => ∃ s', Q e s' ∧ St C s' a' w') fuel (listed.setIfInBounds i true)) (fun e a' w' => ∃ s', Q e s' ∧ St C s' a' w') ?_
    · unfold wpOpIn
      rw [hoi]
      simp only
      split
      · rename_i hw; rw [if_pos hw] at hstep; exact hstep
      · rename_i hw; rw [if_neg hw] at hstep; exact ⟨fun f _ => hF f, hstep⟩
    · intro ρ' a' w' g1 g2 g3 g4 g5 g6
      have hEi := runE_insert (D := fun i => listed.getD i false) (d := d) hDi ds 0 (lk s.E) (Nat.zero_le _) (by simpa using hd) (fun j x hlt hj hD t ht hc => by
        rw [Nat.zero_add] at hlt hD
        exact ((indepB_spec (hlate j x hlt hj hD)).1 t ht).2 hc)
      have hHi := runH_insert (D := fun i => listed.getD i false) (d := d) hDi ds 0 (lk s.H) (Nat.zero_le _) (by simpa using hd) (fun j x hlt hj hD t ht hc => by
        rw [Nat.zero_add] at hlt hD
        exact (indepB_spec (hlate j x hlt hj hD)).2.2.1 t ht (keysT_sub_U hc))
      refine ih _ a' w' (by simpa using hsz) ?_ ?_ ⟨ρ', ?_, g2, ?_, g4, ?_, fun k hk => ⟨(h6 k hk).1, (g6 k hk).2⟩⟩
      · intro k o hko hk e he hbi
        rw [hD'] at hk ⊢
        unfold setD at hk ⊢
        by_cases hki : k = i
        · subst hki
          have := hi3 o (by simpa using hko) e he hbi
          simp only; split <;> first | rfl | exact this
        · rw [if_neg hki] at hk
          have := hcl k o hko hk e he hbi
          simp only at this ⊢; split <;> first | rfl | exact this
      · have hsub : ((List.range ops.size).filter fun j => !(listed.setIfInBounds i true).getD j false).length < ((List.range ops.size).filter fun j => !listed.getD j false).length := by
          have hcount : ∀ (l : List Nat), l.Nodup → i ∈ l → (l.filter fun j => !(listed.setIfInBounds i true).getD j false).length < (l.filter fun j => !listed.getD j false).length := by
            intro l
            induction l with
            | nil => intro _ h; cases h
            | cons x r ihr =>
              intro hn hm
              have hle : ∀ (r : List Nat), (r.filter fun j => !(listed.setIfInBounds i true).getD j false).length ≤ (r.filter fun j => !listed.getD j false).length := by
                intro r
                rw [← List.countP_eq_length_filter, ← List.countP_eq_length_filter]
                refine List.countP_mono_left fun y _ hy => ?_
                rw [congrFun hD' y] at hy
                unfold setD at hy
                split at hy
                · simp at hy
                · exact hy
              by_cases hx : x = i
              · subst hx
                have e1 : (!(listed.setIfInBounds x true).getD x false) = false := by have := congrFun hD' x; simp only [setD, if_true] at this; rw [this]; rfl
                have e2 : (!listed.getD x false) = true := by rw [hDi]; rfl
                rw [List.filter_cons_of_neg (p := fun j => !(listed.setIfInBounds x true).getD j false) (by rw [e1]; simp), List.filter_cons_of_pos (p := fun j => !listed.getD j false) e2]
                have := hle r
                simp only [List.length_cons]; omega
              · have hm' : i ∈ r := by
                  rcases List.mem_cons.1 hm with h | h
                  · exact absurd h.symm hx
                  · exact h
                have := ihr (List.nodup_cons.1 hn).2 hm'
                have e1 : (!(listed.setIfInBounds i true).getD x false) = (!listed.getD x false) := by have := congrFun hD' x; simp only [setD, if_neg hx] at this; rw [this]
                by_cases hl : (!listed.getD x false) = true
                · rw [List.filter_cons_of_pos (p := fun j => !(listed.setIfInBounds i true).getD j false) (by rw [e1]; exact hl), List.filter_cons_of_pos (p := fun j => !listed.getD j false) hl]
                  simp only [List.length_cons]; omega
                · rw [List.filter_cons_of_neg (p := fun j => !(listed.setIfInBounds i true).getD j false) (by rw [e1]; exact hl), List.filter_cons_of_neg (p := fun j => !listed.getD j false) hl]
                  exact this
          exact hcount _ List.nodup_range (List.mem_range.2 hi1)
        omega
      · rw [hD', show runE (setD (fun j => listed.getD j false) i) 0 ds (lk s.E) = _ from funext hEi, show runH (setD (fun j => listed.getD j false) i) 0 ds (lk s.H) = _ from funext hHi]
        exact g1
      · rw [hD', show runE (setD (fun j => listed.getD j false) i) 0 ds (lk s.E) = _ from funext hEi]
        exact g3
      · rw [hD', show runH (setD (fun j => listed.getD j false) i) 0 ds (lk s.H) = _ from funext hHi]
        exact g5
theorem W_draw {id : Nat} (hF : ∀ f, C.F.fn f) (hm : C.P.follows .mixedOrders = true) (hr : RunT C ops s ops.toList ds s2) (hk : drawOK ops.toList ds = true) (hq : Q .normal s2) : W C (.region id ops true) Q s := by
  rintro a w ⟨ρ, h1, h2, h3, h4, h5, h6⟩
  refine wpIn_region_any hm ?_
  have hfalse : (fun i => (Array.replicate ops.size false).getD i false) = fun _ => false := funext fun i => getD_replicate_false' _ _
  have e1 : ∀ (ds : List DStep) (k : Nat) (E : Env), runE (fun _ => false) k ds E = E := by
    intro ds
    induction ds with
    | nil => intros; rfl
    | cons d r ih => intro k E; rw [runE]; exact ih _ _
  have e2 : ∀ (ds : List DStep) (k : Nat) (E : Heap), runH (fun _ => false) k ds E = E := by
    intro ds
    induction ds with
    | nil => intros; rfl
    | cons d r ih => intro k E; rw [runH]; exact ih _ _
  refine any_main hF hr hk hq ops.size _ a _ (by simp) ?_ ?_ ⟨ρ, ?_, h2, ?_, ⟨h4.os, h4.tape, h4.output, h4.size, h4.block⟩, ?_, h6⟩
  · rw [hfalse]; intro j o _ h; cases h
  · exact Nat.le_trans (List.length_filter_le _ _) (by simp)
  · rw [hfalse, e1, e2]
    have := h1.drawn (w.drawn + 1)
    have hS : ∀ k, k < s.N → SD s.N ds (fun _ => false) k := fun k hk => .inl hk
    exact ⟨this.env, this.hok, this.hX, fun t av ht => inS_mono hS av (this.bE t av ht), fun k bk hk => ⟨hS k (this.bH k bk hk).1, inSL_mono hS _ (this.bH k bk hk).2⟩⟩
  · rw [hfalse, e1]; exact h3.step fun _ _ _ h => h
  · rw [hfalse, e2]; exact h5
end
end Go.Sk
