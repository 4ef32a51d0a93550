/- Own work: a calculus for walks through the program, and plain laws: Fw28, S05, Fw25, S01, S01b, S06, Fw26, Fw27, S07, S02, S14, S14b, S14c, S14d -/
import Derived.Test.YtlcgojhopdikbaaDoorD
import Derived.Laws.Externs
import Derived.Lib.AppendZerosOnto
namespace Go.Sk
section
variable {C : Ctx} {Q : Exit → AS → Prop} {s : AS}
theorem wp {ops : Array Oper} {o : Oper} {l : List Oper} {d : DStep} {s1 : AS} (hg : o.guard = none) (hC : C.Ok) (h : OpC C s o d s1) (hn : WL C ops l Q s1) : WL C ops (o :: l) Q s := WL_cons hC.fn (.plain hg h) hn
theorem wsr {id : Nat} {ops : Array Oper} {y : Code} (h : WL C ops ops.toList (thenQ (W C y Q) Q) s) : W C (.seq (.region id ops false) y) Q s := W_seq (W_region h)
end
theorem SetK.s1 {k k1 : Nat} {b b' b1 : Blk} {H : List (Nat × Blk)} (h1 : Nat.beq k1 k = false) : SetK ((k1, b1) :: (k, b) :: H) k b' ((k1, b1) :: (k, b') :: H) := .there (.here) h1
theorem SetK.s2 {k k1 k2 : Nat} {b b' b1 b2 : Blk} {H : List (Nat × Blk)} (h1 : Nat.beq k1 k = false) (h2 : Nat.beq k2 k = false) : SetK ((k1, b1) :: (k2, b2) :: (k, b) :: H) k b' ((k1, b1) :: (k2, b2) :: (k, b') :: H) := .there (.there (.here) h2) h1
theorem SetK.s3 {k k1 k2 k3 : Nat} {b b' b1 b2 b3 : Blk} {H : List (Nat × Blk)} (h1 : Nat.beq k1 k = false) (h2 : Nat.beq k2 k = false) (h3 : Nat.beq k3 k = false) : SetK ((k1, b1) :: (k2, b2) :: (k3, b3) :: (k, b) :: H) k b' ((k1, b1) :: (k2, b2) :: (k3, b3) :: (k, b') :: H) := .there (.there (.there (.here) h3) h2) h1
theorem SetK.s4 {k k1 k2 k3 k4 : Nat} {b b' b1 b2 b3 b4 : Blk} {H : List (Nat × Blk)} (h1 : Nat.beq k1 k = false) (h2 : Nat.beq k2 k = false) (h3 : Nat.beq k3 k = false) (h4 : Nat.beq k4 k = false) : SetK ((k1, b1) :: (k2, b2) :: (k3, b3) :: (k4, b4) :: (k, b) :: H) k b' ((k1, b1) :: (k2, b2) :: (k3, b3) :: (k4, b4) :: (k, b') :: H) := .there (.there (.there (.there (.here) h4) h3) h2) h1
theorem SetK.s5 {k k1 k2 k3 k4 k5 : Nat} {b b' b1 b2 b3 b4 b5 : Blk} {H : List (Nat × Blk)} (h1 : Nat.beq k1 k = false) (h2 : Nat.beq k2 k = false) (h3 : Nat.beq k3 k = false) (h4 : Nat.beq k4 k = false) (h5 : Nat.beq k5 k = false) : SetK ((k1, b1) :: (k2, b2) :: (k3, b3) :: (k4, b4) :: (k5, b5) :: (k, b) :: H) k b' ((k1, b1) :: (k2, b2) :: (k3, b3) :: (k4, b4) :: (k5, b5) :: (k, b') :: H) := .there (.there (.there (.there (.there (.here) h5) h4) h3) h2) h1
theorem SetK.s6 {k k1 k2 k3 k4 k5 k6 : Nat} {b b' b1 b2 b3 b4 b5 b6 : Blk} {H : List (Nat × Blk)} (h1 : Nat.beq k1 k = false) (h2 : Nat.beq k2 k = false) (h3 : Nat.beq k3 k = false) (h4 : Nat.beq k4 k = false) (h5 : Nat.beq k5 k = false) (h6 : Nat.beq k6 k = false) : SetK ((k1, b1) :: (k2, b2) :: (k3, b3) :: (k4, b4) :: (k5, b5) :: (k6, b6) :: (k, b) :: H) k b' ((k1, b1) :: (k2, b2) :: (k3, b3) :: (k4, b4) :: (k5, b5) :: (k6, b6) :: (k, b') :: H) := .there (.there (.there (.there (.there (.there (.here) h6) h5) h4) h3) h2) h1
theorem SetK.s7 {k k1 k2 k3 k4 k5 k6 k7 : Nat} {b b' b1 b2 b3 b4 b5 b6 b7 : Blk} {H : List (Nat × Blk)} (h1 : Nat.beq k1 k = false) (h2 : Nat.beq k2 k = false) (h3 : Nat.beq k3 k = false) (h4 : Nat.beq k4 k = false) (h5 : Nat.beq k5 k = false) (h6 : Nat.beq k6 k = false) (h7 : Nat.beq k7 k = false) : SetK ((k1, b1) :: (k2, b2) :: (k3, b3) :: (k4, b4) :: (k5, b5) :: (k6, b6) :: (k7, b7) :: (k, b) :: H) k b' ((k1, b1) :: (k2, b2) :: (k3, b3) :: (k4, b4) :: (k5, b5) :: (k6, b6) :: (k7, b7) :: (k, b') :: H) := .there (.there (.there (.there (.there (.there (.there (.here) h7) h6) h5) h4) h3) h2) h1
theorem SetK.s8 {k k1 k2 k3 k4 k5 k6 k7 k8 : Nat} {b b' b1 b2 b3 b4 b5 b6 b7 b8 : Blk} {H : List (Nat × Blk)} (h1 : Nat.beq k1 k = false) (h2 : Nat.beq k2 k = false) (h3 : Nat.beq k3 k = false) (h4 : Nat.beq k4 k = false) (h5 : Nat.beq k5 k = false) (h6 : Nat.beq k6 k = false) (h7 : Nat.beq k7 k = false) (h8 : Nat.beq k8 k = false) : SetK ((k1, b1) :: (k2, b2) :: (k3, b3) :: (k4, b4) :: (k5, b5) :: (k6, b6) :: (k7, b7) :: (k8, b8) :: (k, b) :: H) k b' ((k1, b1) :: (k2, b2) :: (k3, b3) :: (k4, b4) :: (k5, b5) :: (k6, b6) :: (k7, b7) :: (k8, b8) :: (k, b') :: H) := .there (.there (.there (.there (.there (.there (.there (.there (.here) h8) h7) h6) h5) h4) h3) h2) h1
theorem DelK.s1 {k k1 : Nat} {b b1 : Blk} {H : List (Nat × Blk)} (h : lk H k = none) (h1 : Nat.beq k1 k = false) : DelK ((k1, b1) :: (k, b) :: H) k ((k1, b1) :: H) := .there (.here h) h1
theorem DelK.s2 {k k1 k2 : Nat} {b b1 b2 : Blk} {H : List (Nat × Blk)} (h : lk H k = none) (h1 : Nat.beq k1 k = false) (h2 : Nat.beq k2 k = false) : DelK ((k1, b1) :: (k2, b2) :: (k, b) :: H) k ((k1, b1) :: (k2, b2) :: H) := .there (.there (.here h) h2) h1
theorem DelK.s3 {k k1 k2 k3 : Nat} {b b1 b2 b3 : Blk} {H : List (Nat × Blk)} (h : lk H k = none) (h1 : Nat.beq k1 k = false) (h2 : Nat.beq k2 k = false) (h3 : Nat.beq k3 k = false) : DelK ((k1, b1) :: (k2, b2) :: (k3, b3) :: (k, b) :: H) k ((k1, b1) :: (k2, b2) :: (k3, b3) :: H) := .there (.there (.there (.here h) h3) h2) h1
theorem DelK.s4 {k k1 k2 k3 k4 : Nat} {b b1 b2 b3 b4 : Blk} {H : List (Nat × Blk)} (h : lk H k = none) (h1 : Nat.beq k1 k = false) (h2 : Nat.beq k2 k = false) (h3 : Nat.beq k3 k = false) (h4 : Nat.beq k4 k = false) : DelK ((k1, b1) :: (k2, b2) :: (k3, b3) :: (k4, b4) :: (k, b) :: H) k ((k1, b1) :: (k2, b2) :: (k3, b3) :: (k4, b4) :: H) := .there (.there (.there (.there (.here h) h4) h3) h2) h1
theorem DelK.s5 {k k1 k2 k3 k4 k5 : Nat} {b b1 b2 b3 b4 b5 : Blk} {H : List (Nat × Blk)} (h : lk H k = none) (h1 : Nat.beq k1 k = false) (h2 : Nat.beq k2 k = false) (h3 : Nat.beq k3 k = false) (h4 : Nat.beq k4 k = false) (h5 : Nat.beq k5 k = false) : DelK ((k1, b1) :: (k2, b2) :: (k3, b3) :: (k4, b4) :: (k5, b5) :: (k, b) :: H) k ((k1, b1) :: (k2, b2) :: (k3, b3) :: (k4, b4) :: (k5, b5) :: H) := .there (.there (.there (.there (.there (.here h) h5) h4) h3) h2) h1
theorem DelK.s6 {k k1 k2 k3 k4 k5 k6 : Nat} {b b1 b2 b3 b4 b5 b6 : Blk} {H : List (Nat × Blk)} (h : lk H k = none) (h1 : Nat.beq k1 k = false) (h2 : Nat.beq k2 k = false) (h3 : Nat.beq k3 k = false) (h4 : Nat.beq k4 k = false) (h5 : Nat.beq k5 k = false) (h6 : Nat.beq k6 k = false) : DelK ((k1, b1) :: (k2, b2) :: (k3, b3) :: (k4, b4) :: (k5, b5) :: (k6, b6) :: (k, b) :: H) k ((k1, b1) :: (k2, b2) :: (k3, b3) :: (k4, b4) :: (k5, b5) :: (k6, b6) :: H) := .there (.there (.there (.there (.there (.there (.here h) h6) h5) h4) h3) h2) h1
theorem DelK.s7 {k k1 k2 k3 k4 k5 k6 k7 : Nat} {b b1 b2 b3 b4 b5 b6 b7 : Blk} {H : List (Nat × Blk)} (h : lk H k = none) (h1 : Nat.beq k1 k = false) (h2 : Nat.beq k2 k = false) (h3 : Nat.beq k3 k = false) (h4 : Nat.beq k4 k = false) (h5 : Nat.beq k5 k = false) (h6 : Nat.beq k6 k = false) (h7 : Nat.beq k7 k = false) : DelK ((k1, b1) :: (k2, b2) :: (k3, b3) :: (k4, b4) :: (k5, b5) :: (k6, b6) :: (k7, b7) :: (k, b) :: H) k ((k1, b1) :: (k2, b2) :: (k3, b3) :: (k4, b4) :: (k5, b5) :: (k6, b6) :: (k7, b7) :: H) := .there (.there (.there (.there (.there (.there (.there (.here h) h7) h6) h5) h4) h3) h2) h1
theorem DelK.s8 {k k1 k2 k3 k4 k5 k6 k7 k8 : Nat} {b b1 b2 b3 b4 b5 b6 b7 b8 : Blk} {H : List (Nat × Blk)} (h : lk H k = none) (h1 : Nat.beq k1 k = false) (h2 : Nat.beq k2 k = false) (h3 : Nat.beq k3 k = false) (h4 : Nat.beq k4 k = false) (h5 : Nat.beq k5 k = false) (h6 : Nat.beq k6 k = false) (h7 : Nat.beq k7 k = false) (h8 : Nat.beq k8 k = false) : DelK ((k1, b1) :: (k2, b2) :: (k3, b3) :: (k4, b4) :: (k5, b5) :: (k6, b6) :: (k7, b7) :: (k8, b8) :: (k, b) :: H) k ((k1, b1) :: (k2, b2) :: (k3, b3) :: (k4, b4) :: (k5, b5) :: (k6, b6) :: (k7, b7) :: (k8, b8) :: H) := .there (.there (.there (.there (.there (.there (.there (.there (.here h) h8) h7) h6) h5) h4) h3) h2) h1
end Go.Sk
namespace Go.Sk
def rol (x : Int) (n : Nat) : Int := x % 2 ^ (32 - n) * 2 ^ n + x / 2 ^ (32 - n)
abbrev ad (x y : Int) : Int := (x + y) % 4294967296
def q1 (a b : Int) : Int := ad a b
def q2 (a b d : Int) : Int := rol (xr d (q1 a b)) 16
def q3 (a b c d : Int) : Int := ad c (q2 a b d)
def q4 (a b c d : Int) : Int := rol (xr b (q3 a b c d)) 12
section
variable {key nonce b : List Int} {n : Int}
end
theorem unit_at {k : IntKind} {ws : List Int} {m : Nat} {v : Int} (h : m < ws.length) (hv : ws.getD m 0 = v) : unit false 1 ((I k ws).drop m) (.i k v) := by subst hv; exact unit_I h
attribute [irreducible] rol q1 q2 q3 q4
end Go.Sk
namespace Go.Sk
open Go.RowKit
theorem run_equalIn_ptr_nil {P : Program} {w : World} (d : Nat) {t e : TypeId} (a : Option Addr) (h : P.underlying t = some (.pointer e)) : (Op.equalIn (d + 1) t (.pointer a) (.pointer none)).run P w = .ok a.isNone w := by
  cases a <;> simp [Op.equalIn, run_underlying h]
section
variable {C : Ctx} {N : Nat} {E : List (Nat × AV)} {H : List (Nat × Blk)} {d : Nat} {ty : TypeId} {pos : String} {af : Array Edge} {g : Option (Nat × Bool)}
inductive PtrN : AV → Bool → Prop
  | p {k off : Nat} : PtrN (.p k off) false
  | rp {x : AV} {xs : List AV} : PtrN (.rp (x :: xs)) false
  | nilp : PtrN .nilp true
theorem oc_ptrnil {op : BinOp} {x : Operand} {av : AV} {z r : Bool} {p : List (Nat × AV)} {xt yt e : TypeId} (hC : C.Ok) (hop : op = .eql ∨ op = .neq) (hx : OpV E x av p) (hp : PtrN av z) (hu : C.P.underlying xt = some (.pointer e)) (hr : (if op = .eql then z else !z) = r)
    (hd : Nat.blt d C.T = true) (hd6 : Nat.blt d 1000000 = true) :
    OpC C ⟨N, E, H⟩ ⟨some d, .binOp op xt x (.const (.pointer none)) yt, ty, pos, af, g⟩ ⟨⟨some d, .binOp op xt x (.const (.pointer none)) yt, ty, pos, af, g⟩, false, p, [], [], [], .b r⟩ ⟨N, (d, .b r) :: E, H⟩ := by
  subst hr
  refine oc_pure hC rfl hd hd6 (fun _ h => by cases h) hx.pre (by simp) (fun ρ w O A hpr _ => ⟨.bool (if op = .eql then z else !z), ?_, by simp only [AV.sim]⟩) (fun S _ _ => inS_b)
  have h1 := hx.sim hpr
  obtain ⟨a, ha, hz⟩ : ∃ a : Option Addr, A.eval x = .pointer a ∧ a.isNone = z := by
    cases hp with
    | p => simp only [AV.sim] at h1; obtain ⟨bl, _, h2⟩ := h1; exact ⟨_, h2, rfl⟩
    | rp => simp only [AV.sim] at h1; obtain ⟨ad, cvs, h2, _⟩ := h1; exact ⟨_, h2, rfl⟩
    | nilp => simp only [AV.sim] at h1; exact ⟨_, h1, rfl⟩
  have e2 : A.eval (.const (.pointer none)) = .pointer none := rfl
  have hg : (eqGuard op xt x (.const (.pointer none)) (.pointer a) (.pointer none)).run C.P w = .ok () w := by
    unfold eqGuard
    rcases hop with rfl | rfl <;> rfl
  have he : (Op.equal xt (.pointer a) (.pointer none)).run C.P w = .ok a.isNone w := run_equalIn_ptr_nil 9999 a hu
  simp only [execOp, ha, e2, Sem.run_bind, hg, Result.andThen_ok]
  subst hz
  rcases hop with rfl | rfl <;> simp [binOp, he]
end
@[simp] theorem inSL_take_map {S : Nat → Prop} {k : IntKind} {l : List Int} {m : Nat} : AV.inSL S (List.take m (List.map (AV.i k) l)) := by rw [← List.map_take]; exact inSL_I _
@[simp] theorem inSL_drop_map {S : Nat → Prop} {k : IntKind} {l : List Int} {m : Nat} : AV.inSL S (List.drop m (List.map (AV.i k) l)) := by rw [← List.map_drop]; exact inSL_I _
theorem inSL_drop {S : Nat → Prop} {l : List AV} {m : Nat} (h : AV.inSL S l) : AV.inSL S (l.drop m) := inSL_iff.2 fun x hx => inSL_iff.1 h x (List.mem_of_mem_drop hx)
theorem inSL_take {S : Nat → Prop} {l : List AV} {m : Nat} (h : AV.inSL S l) : AV.inSL S (l.take m) := inSL_iff.2 fun x hx => inSL_iff.1 h x (List.mem_of_mem_take hx)
@[simp] theorem inSL_dt_map {S : Nat → Prop} {k : IntKind} {l : List Int} {m n : Nat} : AV.inSL S (List.drop n (List.take m (List.map (AV.i k) l))) := inSL_drop inSL_take_map
@[simp] theorem inSL_td_map {S : Nat → Prop} {k : IntKind} {l : List Int} {m n : Nat} : AV.inSL S (List.take n (List.drop m (List.map (AV.i k) l))) := inSL_take inSL_drop_map
end Go.Sk
namespace Go.Sk
def ix7 (b : List Int) : Nat := (b.takeWhile fun c => !decide (c < 128)).length
theorem ix7_le (b : List Int) : ix7 b ≤ b.length := (List.takeWhile_sublist _).length_le
theorem ix7_cons (c : Int) (b : List Int) : ix7 (c :: b) = if c < 128 then 0 else ix7 b + 1 := by
  unfold ix7
  rw [List.takeWhile_cons]
  split <;> rename_i h
  · rw [if_neg (by simpa using h)]; rfl
  · rw [if_pos (by simpa using h)]; rfl
theorem ix7_spec : ∀ (b : List Int) (i : Nat), i ≤ ix7 b → i < b.length → (b.getD i 0 < 128 → ix7 b = i) ∧ (¬ b.getD i 0 < 128 → i + 1 ≤ ix7 b)
  | [], i, _, h => by simp at h
  | c :: b, 0, _, _ => by
    rw [ix7_cons]
    simp only [List.getD_cons_zero]
    refine ⟨fun h => if_pos h, fun h => ?_⟩
    rw [if_neg h]; omega
  | c :: b, i + 1, hi, h => by
    rw [ix7_cons] at hi ⊢
    split at hi
    · omega
    · rename_i hc
      obtain ⟨h1, h2⟩ := ix7_spec b i (by omega) (by simpa using h)
      simp only [List.getD_cons_succ]
      rw [if_neg hc]
      refine ⟨fun h => by rw [h1 h], fun h => ?_⟩
      have := h2 h; omega
def lastOf (b : List Int) : Int := if ix7 b < b.length then (ix7 b : Int) else -1
def vnum : List Int → Int
  | [] => 0
  | c :: r => vnum r * 128 + c % 128
theorem vnum_range : ∀ (l : List Int), 0 ≤ vnum l ∧ vnum l < 128 ^ l.length
  | [] => by simp [vnum]
  | c :: r => by
    have h := vnum_range r
    have h2 : (128 : Int) ^ (r.length + 1) = 128 ^ r.length * 128 := Int.pow_succ _ _
    simp only [vnum, List.length_cons]
    omega
theorem vnum_drop {l : List Int} {i : Nat} (h : i < l.length) : vnum (l.drop i) = vnum (l.drop (i + 1)) * 128 + l.getD i 0 % 128 := by
  rw [List.drop_eq_getElem_cons h, vnum, List.getD_eq_getElem?_getD, List.getElem?_eq_getElem h]; rfl
theorem and127 : ∀ c : _root_.Fin 256, binI .and .u8 (c.val : Int) 127 = (c.val : Int) % 128 := by decide +kernel
theorem and_127 {c : Int} (h : 0 ≤ c ∧ c < 256) : binI .and .u8 c 127 = c % 128 := by
  obtain ⟨a, rfl⟩ := Int.eq_ofNat_of_zero_le h.1
  exact and127 ⟨a, by omega⟩
theorem or64 {a b : Nat} (ha : a < 9223372036854775808) (hb : b < 9223372036854775808) (hab : a ||| b < 9223372036854775808) : binI .or .i64 (a : Int) (b : Int) = ((a ||| b : Nat) : Int) := by
  show IntKind.i64.wrap ((BitVec.ofInt 64 (a : Int) ||| BitVec.ofInt 64 (b : Int)).toNat : Int) = _
  have e1 : (BitVec.ofInt 64 (a : Int)).toNat = a := by simp; omega
  have e2 : (BitVec.ofInt 64 (b : Int)).toNat = b := by simp; omega
  rw [BitVec.toNat_or, e1, e2, i64_conv (by omega)]
theorem or_add64 {a b : Int} (ha : 0 ≤ a) (ha2 : a < 36028797018963968) (hb : 0 ≤ b ∧ b < 128) : binI .or .i64 (a * 128) b = a * 128 + b := by
  obtain ⟨x, rfl⟩ := Int.eq_ofNat_of_zero_le ha
  obtain ⟨y, rfl⟩ := Int.eq_ofNat_of_zero_le hb.1
  have e : x * 128 ||| y = x * 128 + y := by
    have h := Nat.shiftLeft_add_eq_or_of_lt (show y < 2 ^ 7 by omega) x
    rw [Nat.shiftLeft_eq] at h
    exact h.symm
  have := or64 (a := x * 128) (b := y) (by omega) (by omega) (by rw [e]; omega)
  rw [show (((x * 128 : Nat)) : Int) = (x : Int) * 128 by omega] at this
  rw [this, e]; omega
theorem vnum_lt {l : List Int} (h : l.length ≤ 6) : 0 ≤ vnum l ∧ vnum l < 4398046511104 := by
  have h1 := vnum_range l
  have h2 : (128 : Int) ^ l.length ≤ 128 ^ 6 := by
    have : (128 : Nat) ^ l.length ≤ 128 ^ 6 := Nat.pow_le_pow_right (by decide) h
    exact_mod_cast this
  have h3 : (128 : Int) ^ 6 = 4398046511104 := by decide
  omega
theorem vnum_end {l : List Int} : vnum (l.drop l.length) = 0 := by rw [List.drop_of_length_le (Nat.le_refl _)]; rfl
inductive NumR (b : List Int) (most : Int) : Int → List Int → Int → Prop
  | long (h : 6 ≤ ix7 b) : NumR b most 4 b 0
  | short (h : ix7 b = b.length) (h6 : b.length < 6) : NumR b most 2 b 0
  | nought (h : ix7 b < b.length) (h6 : ix7 b < 6) (h0 : 0 < ix7 b) (hz : b.getD (ix7 b) 0 = 0) : NumR b most 4 (b.drop (ix7 b + 1)) 0
  | great (h : ix7 b < b.length) (h6 : ix7 b < 6) (hz : ix7 b = 0 ∨ b.getD (ix7 b) 0 ≠ 0) (hm : most < vnum (b.take (ix7 b + 1)) ∨ 1099511627775 < vnum (b.take (ix7 b + 1))) : NumR b most 3 (b.drop (ix7 b + 1)) 0
  | ok (h : ix7 b < b.length) (h6 : ix7 b < 6) (hz : ix7 b = 0 ∨ b.getD (ix7 b) 0 ≠ 0) (hm : vnum (b.take (ix7 b + 1)) ≤ most ∧ vnum (b.take (ix7 b + 1)) ≤ 1099511627775) : NumR b most 0 (b.drop (ix7 b + 1)) (vnum (b.take (ix7 b + 1)))
theorem take_get {b : List Int} {i k : Nat} (h : i < k) : (b.take k).getD i 0 = b.getD i 0 := by
  simp only [List.getD_eq_getElem?_getD, List.getElem?_take]; rw [if_pos h]
theorem and64 {a : Nat} (ha : a < 9223372036854775808) : binI .and .i64 (a : Int) 127 = ((a % 128 : Nat) : Int) := by
  show IntKind.i64.wrap ((BitVec.ofInt 64 (a : Int) &&& BitVec.ofInt 64 127).toNat : Int) = _
  have e1 : (BitVec.ofInt 64 (a : Int)).toNat = a := by simp; omega
  have e2 : (BitVec.ofInt 64 127).toNat = 127 := by decide
  have e3 : a &&& 127 = a % 128 := Nat.and_two_pow_sub_one_eq_mod a 7
  rw [BitVec.toNat_and, e1, e2, e3, i64_conv (by omega)]
theorem or128' : ∀ c : _root_.Fin 128, binI .or .i64 (c.val : Int) 128 = ((128 + c.val : Nat) : Int) := by decide +kernel
theorem or128 {c : Nat} (h : c < 128) : binI .or .i64 (c : Int) 128 = ((128 + c : Nat) : Int) := or128' ⟨c, h⟩
def putN : Nat → Nat → List Int
  | 0, n => [(n : Int)]
  | f + 1, n => if n < 128 then [(n : Int)] else ((128 + n % 128 : Nat) : Int) :: putN f (n / 128)
def putV (n : Nat) : List Int := putN 6 n
theorem putN_lt {f n : Nat} (h : n < 128) : putN f n = [(n : Int)] := by
  cases f with
  | zero => rfl
  | succ f => rw [putN, if_pos h]
theorem putN_ge {f n : Nat} (h : ¬ n < 128) : putN (f + 1) n = ((128 + n % 128 : Nat) : Int) :: putN f (n / 128) := by rw [putN, if_neg h]
theorem B8_putN : ∀ (f n : Nat), n < 128 ^ (f + 1) → B8 (putN f n)
  | 0, n, h => by intro x hx; simp [putN] at hx; subst hx; omega
  | f + 1, n, h => by
    rw [putN]
    split
    · intro x hx; simp at hx; subst hx; omega
    · intro x hx
      rcases List.mem_cons.1 hx with rfl | hx
      · omega
      · refine B8_putN f (n / 128) ?_ x hx
        rw [Nat.pow_succ] at h
        exact Nat.div_lt_of_lt_mul (by rw [Nat.mul_comm]; exact h)
theorem length_putN : ∀ (f n : Nat), (putN f n).length ≤ f + 1
  | 0, n => by simp [putN]
  | f + 1, n => by
    rw [putN]
    split
    · simp
    · have := length_putN f (n / 128)
      simp only [List.length_cons]; omega
structure PutR (n0 : Nat) (em : List Int) (f cur : Nat) : Prop where
  all : em ++ putN f cur = putV n0
  lt : cur < 128 ^ (f + 1)
theorem PutR.zero {n : Nat} (h : n ≤ 1099511627775) : PutR n [] 6 n := ⟨rfl, by omega⟩
theorem PutR.succ {n0 f cur : Nat} {em : List Int} (h : PutR n0 em f cur) (hc : ¬ cur < 128) : ∃ g, f = g + 1 ∧ PutR n0 (em ++ [((128 + cur % 128 : Nat) : Int)]) g (cur / 128) := by
  cases f with
  | zero => have := h.lt; omega
  | succ g =>
    refine ⟨g, rfl, ?_, ?_⟩
    · rw [← h.all, putN_ge hc]; simp
    · have := h.lt
      rw [Nat.pow_succ] at this
      exact Nat.div_lt_of_lt_mul (by rw [Nat.mul_comm]; exact this)
theorem PutR.end {n0 f cur : Nat} {em : List Int} (h : PutR n0 em f cur) (hc : cur < 128) : em ++ [(cur : Int)] = putV n0 := by rw [← h.all, putN_lt hc]
def fixL (n : Nat) : Nat → List Int
  | 0 => []
  | w + 1 => ((n % 256 : Nat) : Int) :: fixL (n / 256) w
theorem length_fixL : ∀ (n w : Nat), (fixL n w).length = w
  | _, 0 => rfl
  | n, w + 1 => by rw [fixL, List.length_cons, length_fixL]
theorem fixL_succ : ∀ (n w : Nat), fixL n w ++ [((n / 256 ^ w % 256 : Nat) : Int)] = fixL n (w + 1)
  | n, 0 => by simp [fixL]
  | n, w + 1 => by
    rw [fixL, List.cons_append, show n / 256 ^ (w + 1) = n / 256 / 256 ^ w by rw [Nat.div_div_eq_div_mul, Nat.pow_succ, Nat.mul_comm]]
    rw [fixL_succ (n / 256) w]; rfl
theorem B8_fixL : ∀ (n w : Nat), B8 (fixL n w)
  | _, 0 => by intro x hx; cases hx
  | n, w + 1 => by
    intro x hx
    rw [fixL] at hx
    rcases List.mem_cons.1 hx with rfl | hx
    · omega
    · exact B8_fixL _ _ x hx
theorem fix_next {n i : Nat} : ((n / 256 ^ (i + 1) : Nat) : Int) = ((n / 256 ^ i : Nat) : Int) / 2 ^ 8 := by
  rw [Nat.pow_succ, ← Nat.div_div_eq_div_mul]
  show ((n / 256 ^ i / 256 : Nat) : Int) = ((n / 256 ^ i : Nat) : Int) / 256
  rw [Int.natCast_ediv]; rfl
theorem fix_byte {x : Nat} : IntKind.u8.wrap (x : Int) = ((x % 256 : Nat) : Int) := by rw [u8_wrap]; omega
def vle : List Int → Int
  | [] => 0
  | c :: r => vle r * 256 + c
theorem vle_range : ∀ {l : List Int}, B8 l → 0 ≤ vle l ∧ vle l < 256 ^ l.length
  | [], _ => by simp [vle]
  | c :: r, h => by
    have h1 := vle_range (l := r) (fun x hx => h x (List.mem_cons_of_mem _ hx))
    have h0 := h c List.mem_cons_self
    have h2 : (256 : Int) ^ (r.length + 1) = 256 ^ r.length * 256 := Int.pow_succ _ _
    simp only [vle, List.length_cons]
    omega
theorem vle_lt {l : List Int} {k : Nat} (hb : B8 l) (h : l.length ≤ k) : 0 ≤ vle l ∧ vle l < 256 ^ k := by
  have h1 := vle_range hb
  have h2 : (256 : Int) ^ l.length ≤ 256 ^ k := by
    have e : ∀ m : Nat, (256 : Int) ^ m = ((256 ^ m : Nat) : Int) := fun m => (Int.natCast_pow 256 m).symm
    rw [e, e]
    exact Int.ofNat_le.2 (Nat.pow_le_pow_right (by decide) h)
  omega
theorem vle_drop {l : List Int} {i : Nat} (h : i < l.length) : vle (l.drop i) = vle (l.drop (i + 1)) * 256 + l.getD i 0 := by
  rw [List.drop_eq_getElem_cons h, vle, List.getD_eq_getElem?_getD, List.getElem?_eq_getElem h]; rfl
theorem vle_end {l : List Int} : vle (l.drop l.length) = 0 := by rw [List.drop_of_length_le (Nat.le_refl _)]; rfl
theorem vle_nil : vle [] = 0 := rfl
theorem or_addU {a b : Int} (ha : 0 ≤ a) (ha2 : a < 72057594037927936) (hb : 0 ≤ b ∧ b < 256) : binI .or .u64 (a * 256) b = a * 256 + b := by
  obtain ⟨x, rfl⟩ := Int.eq_ofNat_of_zero_le ha
  obtain ⟨y, rfl⟩ := Int.eq_ofNat_of_zero_le hb.1
  have e : x * 256 ||| y = x * 256 + y := by
    have h := Nat.shiftLeft_add_eq_or_of_lt (show y < 2 ^ 8 by omega) x
    rw [Nat.shiftLeft_eq] at h
    exact h.symm
  show IntKind.u64.wrap ((BitVec.ofInt 64 ((x : Int) * 256) ||| BitVec.ofInt 64 (y : Int)).toNat : Int) = _
  have e1 : (BitVec.ofInt 64 ((x : Int) * 256)).toNat = x * 256 := by
    rw [show (x : Int) * 256 = ((x * 256 : Nat) : Int) by omega]; simp; omega
  have e2 : (BitVec.ofInt 64 (y : Int)).toNat = y := by simp; omega
  rw [BitVec.toNat_or, e1, e2, e, u64_conv (by omega)]; omega
theorem fix_quo {n i : Nat} (h : n < 18446744073709551616) : binI .quo .u64 ((n / 256 ^ i : Nat) : Int) 256 = ((n / 256 ^ i : Nat) : Int) / 2 ^ 8 := by
  have h1 : n / 256 ^ i ≤ n := Nat.div_le_self _ _
  generalize n / 256 ^ i = x at *
  show IntKind.u64.wrap ((x : Int).tdiv 256) = (x : Int) / 256
  rw [Int.tdiv_eq_ediv_of_nonneg (by omega)]
  exact u64_conv (by omega)
theorem fixL_succ_s {n w : Nat} : fixL n (w + 1) = fixL n w ++ [((n / 256 ^ w % 256 : Nat) : Int)] := (fixL_succ n w).symm
attribute [irreducible] putN putV fixL vnum ix7 lastOf vle
end Go.Sk
namespace Go.Sk
theorem numR_ex (b : List Int) (most : Int) : ∃ e1 b1 v, NumR b most e1 b1 v := by
  have hix := ix7_le b
  by_cases h6 : 6 ≤ ix7 b
  · exact ⟨_, _, _, .long h6⟩
  · by_cases h : ix7 b = b.length
    · exact ⟨_, _, _, .short h (by omega)⟩
    · have hlt : ix7 b < b.length := by omega
      by_cases hz : 0 < ix7 b ∧ b.getD (ix7 b) 0 = 0
      · exact ⟨_, _, _, .nought hlt (by omega) hz.1 hz.2⟩
      · have hz' : ix7 b = 0 ∨ b.getD (ix7 b) 0 ≠ 0 := by
          by_cases h0 : ix7 b = 0
          · exact .inl h0
          · exact .inr fun h1 => hz ⟨by omega, h1⟩
        by_cases hm : vnum (b.take (ix7 b + 1)) ≤ most ∧ vnum (b.take (ix7 b + 1)) ≤ 1099511627775
        · exact ⟨_, _, _, .ok hlt (by omega) hz' hm⟩
        · exact ⟨_, _, _, .great hlt (by omega) hz' (by omega)⟩
inductive NumS (b : List Int) (e most : Int) : Int → List Int → Int → Prop
  | err (he : e ≠ 0) : NumS b e most e b 0
  | go {e1 : Int} {b1 : List Int} {v : Int} (he : e = 0) (h : NumR b most e1 b1 v) : NumS b e most e1 b1 v
theorem numS_ex (b : List Int) (e most : Int) : ∃ e1 b1 v, NumS b e most e1 b1 v := by
  by_cases he : e = 0
  · obtain ⟨e1, b1, v, h⟩ := numR_ex b most
    exact ⟨_, _, _, .go he h⟩
  · exact ⟨_, _, _, .err he⟩
section
variable {b b1 : List Int} {e most e1 v : Int}
theorem NumR.b8 (h : NumR b most e1 b1 v) (hb : B8 b) : B8 b1 := by
  cases h <;> first | exact hb | exact fun x hx => hb x (List.mem_of_mem_drop hx)
theorem NumS.b8 (h : NumS b e most e1 b1 v) (hb : B8 b) : B8 b1 := by
  cases h with
  | err => exact hb
  | go _ h => exact h.b8 hb
theorem NumR.len (h : NumR b most e1 b1 v) : b1.length ≤ b.length := by
  cases h <;> simp [List.length_drop]
theorem NumS.len (h : NumS b e most e1 b1 v) : b1.length ≤ b.length := by
  cases h with
  | err => exact Nat.le_refl _
  | go _ h => exact h.len
theorem NumR.fail (h : NumR b most e1 b1 v) (he : e1 ≠ 0) : v = 0 := by
  cases h <;> first | rfl | exact absurd rfl he
theorem NumS.fail (h : NumS b e most e1 b1 v) (he : e1 ≠ 0) : v = 0 := by
  cases h with
  | err => rfl
  | go _ h => exact h.fail he
theorem NumR.nat (h : NumR b most e1 b1 v) : 0 ≤ v ∧ v ≤ 1099511627775 := by
  cases h with
  | ok _ _ _ hm => exact ⟨(vnum_range _).1, hm.2⟩
  | _ => exact ⟨Int.le_refl _, by decide⟩
theorem NumS.nat (h : NumS b e most e1 b1 v) : 0 ≤ v ∧ v ≤ 1099511627775 := by
  cases h with
  | err => exact ⟨Int.le_refl _, by decide⟩
  | go _ h => exact h.nat
end
inductive FixS (b : List Int) (e width : Int) : Int → List Int → List Int → Prop
  | err (he : e ≠ 0) : FixS b e width e b []
  | range (he : e = 0) (hw : width < 0 ∨ (0 ≤ width ∧ 8 < width)) : FixS b e width 3 b []
  | short (wd : Nat) (he : e = 0) (hw : width = wd) (h8 : wd ≤ 8) (hk : b.length < wd) : FixS b e width 2 b []
  | ok (wd : Nat) (he : e = 0) (hw : width = wd) (h8 : wd ≤ 8) (hk : wd ≤ b.length) : FixS b e width 0 (b.drop wd) (b.take wd)
theorem fixS_ex (b : List Int) (e width : Int) : ∃ e1 b1 x, FixS b e width e1 b1 x := by
  by_cases he : e = 0
  · rcases (show (width < 0 ∨ (0 ≤ width ∧ 8 < width)) ∨ (0 ≤ width ∧ width ≤ 8) by omega) with h | h
    · exact ⟨_, _, _, .range he h⟩
    · obtain ⟨wd, rfl⟩ := Int.eq_ofNat_of_zero_le h.1
      by_cases hk : wd ≤ b.length
      · exact ⟨_, _, _, .ok wd he rfl (by omega) hk⟩
      · exact ⟨_, _, _, .short wd he rfl (by omega) (by omega)⟩
  · exact ⟨_, _, _, .err he⟩
section
variable {b b1 x : List Int} {e width e1 : Int}
theorem FixS.b8 (h : FixS b e width e1 b1 x) (hb : B8 b) : B8 b1 := by
  cases h <;> first | exact hb | exact fun x hx => hb x (List.mem_of_mem_drop hx)
theorem FixS.len (h : FixS b e width e1 b1 x) : b1.length ≤ b.length := by
  cases h <;> simp [List.length_drop]
end
theorem vnum_cons (c : Int) (r : List Int) : vnum (c :: r) = vnum r * 128 + c % 128 := by rw [vnum]
theorem vnum_nil : vnum [] = 0 := by rw [vnum]
theorem vle_cons (c : Int) (r : List Int) : vle (c :: r) = vle r * 256 + c := by rw [vle]
theorem putN_spec : ∀ (f n : Nat) (rest : List Int), n < 128 ^ (f + 1) → ix7 (putN f n ++ rest) + 1 = (putN f n).length ∧ vnum (putN f n) = n ∧ ((putN f n ++ rest).getD (ix7 (putN f n ++ rest)) 0 ≠ 0 ∨ n = 0) := by
  intro f
  induction f with
  | zero =>
    intro n rest h
    have h7 : n < 128 := by omega
    rw [putN_lt h7]
    have hi : ix7 ([(n : Int)] ++ rest) = 0 := by
      rw [List.singleton_append, ix7_cons, if_pos (by omega)]
    rw [hi, vnum_cons, vnum_nil]
    refine ⟨rfl, by omega, ?_⟩
    simp only [List.singleton_append, List.getD_cons_zero]
    omega
  | succ f ih =>
    intro n rest h
    by_cases h7 : n < 128
    · rw [putN_lt h7]
      have hi : ix7 ([(n : Int)] ++ rest) = 0 := by
        rw [List.singleton_append, ix7_cons, if_pos (by omega)]
      rw [hi, vnum_cons, vnum_nil]
      refine ⟨rfl, by omega, ?_⟩
      simp only [List.singleton_append, List.getD_cons_zero]
      omega
    · obtain ⟨h1, h2, h3⟩ := ih (n / 128) rest (by rw [Nat.pow_succ] at h; exact Nat.div_lt_of_lt_mul (by rw [Nat.mul_comm]; exact h))
      rw [putN_ge h7]
      have hi : ix7 ((((128 + n % 128 : Nat) : Int) :: putN f (n / 128)) ++ rest) = ix7 (putN f (n / 128) ++ rest) + 1 := by
        rw [List.cons_append, ix7_cons, if_neg (by omega)]
      rw [hi, vnum_cons, h2]
      refine ⟨by rw [List.length_cons, h1], by omega, ?_⟩
      simp only [List.cons_append, List.getD_cons_succ]
      rcases h3 with h3 | h3
      · exact .inl h3
      · omega
theorem length_putN' : ∀ (k f n : Nat), n < 128 ^ (k + 1) → (putN f n).length ≤ k + 1
  | 0, f, n, h => by rw [putN_lt (by omega)]; simp
  | k + 1, f, n, h => by
    by_cases h7 : n < 128
    · rw [putN_lt h7]; simp
    · cases f with
      | zero => have := length_putN 0 n; omega
      | succ f =>
        rw [putN_ge h7, List.length_cons]
        have := length_putN' k f (n / 128) (by rw [Nat.pow_succ] at h; exact Nat.div_lt_of_lt_mul (by rw [Nat.mul_comm]; exact h))
        omega
theorem putV_eq (n : Nat) : putV n = putN 6 n := by unfold putV; rfl
theorem length_putV {n : Nat} (h : n ≤ 1099511627775) : 1 ≤ (putV n).length ∧ (putV n).length ≤ 6 := by
  rw [putV_eq]
  have h1 := (putN_spec 6 n [] (by omega)).1
  exact ⟨by omega, length_putN' 5 6 n (by omega)⟩
theorem B8_putV {n : Nat} (h : n ≤ 1099511627775) : B8 (putV n) := by rw [putV_eq]; exact B8_putN 6 n (by omega)
theorem numR_put {n : Nat} {most : Int} (rest : List Int) (h : n ≤ 1099511627775) (hm : (n : Int) ≤ most) : NumR (putV n ++ rest) most 0 rest n := by
  obtain ⟨h1, h2, h3⟩ := putN_spec 6 n rest (by omega)
  have hl := length_putV h
  rw [← putV_eq] at h1 h2 h3
  have ht : (putV n ++ rest).take (ix7 (putV n ++ rest) + 1) = putV n := by rw [h1]; exact List.take_left' rfl
  have hd : (putV n ++ rest).drop (ix7 (putV n ++ rest) + 1) = rest := by rw [h1]; exact List.drop_left' rfl
  have := NumR.ok (b := putV n ++ rest) (most := most) (by rw [List.length_append]; omega) (by omega) ?_ (by rw [ht, h2]; exact ⟨hm, by omega⟩)
  · rwa [hd, ht, h2] at this
  · rcases h3 with h3 | h3
    · exact .inr h3
    · left
      have e : putV n = [0] := by rw [putV_eq, h3, putN_lt (by decide)]; rfl
      rw [e] at h1
      simp only [List.length_singleton] at h1
      rw [e]; omega
theorem putN_can : ∀ (b : List Int) (f : Nat), B8 b → ix7 b < b.length → ix7 b ≤ f → (ix7 b = 0 ∨ b.getD (ix7 b) 0 ≠ 0) → ∃ n : Nat, vnum (b.take (ix7 b + 1)) = n ∧ putN f n = b.take (ix7 b + 1) ∧ (b.getD (ix7 b) 0 ≠ 0 → 0 < n)
  | [], _, _, h, _, _ => by simp at h
  | c :: r, f, hb, h, hf, hz => by
    have hc := hb c List.mem_cons_self
    rw [ix7_cons] at h hf hz ⊢
    by_cases hlt : c < 128
    · rw [if_pos hlt]
      obtain ⟨a, rfl⟩ := Int.eq_ofNat_of_zero_le hc.1
      refine ⟨a, ?_, ?_, ?_⟩
      · simp only [Nat.zero_add, List.take_succ_cons, List.take_zero]
        rw [vnum_cons, vnum_nil]; omega
      · simp only [Nat.zero_add, List.take_succ_cons, List.take_zero]
        exact putN_lt (by omega)
      · simp only [List.getD_cons_zero]; omega
    · rw [if_neg hlt] at h hf hz ⊢
      obtain ⟨g, rfl⟩ : ∃ g, f = g + 1 := ⟨f - 1, by omega⟩
      simp only [List.getD_cons_succ, List.length_cons] at hz h
      have hz' : r.getD (ix7 r) 0 ≠ 0 := by
        rcases hz with hz | hz
        · omega
        · exact hz
      obtain ⟨n, h1, h2, h3⟩ := putN_can r g (fun x hx => hb x (List.mem_cons_of_mem _ hx)) (by omega) (by omega) (.inr hz')
      have hn := h3 hz'
      obtain ⟨a, rfl⟩ := Int.eq_ofNat_of_zero_le hc.1
      refine ⟨n * 128 + a % 128, ?_, ?_, fun _ => by omega⟩
      · rw [List.take_succ_cons, vnum_cons, h1]; omega
      · rw [List.take_succ_cons, ← h2, putN_ge (by omega), show (n * 128 + a % 128) / 128 = n by omega, show 128 + (n * 128 + a % 128) % 128 = a by omega]
theorem NumR.can {b b1 : List Int} {most v : Int} (h : NumR b most 0 b1 v) (hb : B8 b) : ∃ n : Nat, v = n ∧ n ≤ 1099511627775 ∧ putV n = b.take (putV n).length ∧ (putV n).length + b1.length = b.length := by
  cases h with
  | ok h h6 hz hm =>
    obtain ⟨n, h1, h2, _⟩ := putN_can b 6 hb h (by omega) hz
    rw [← putV_eq] at h2
    have hl : (putV n).length = ix7 b + 1 := by rw [h2, List.length_take]; omega
    refine ⟨n, h1, by rw [h1] at hm; omega, by rw [hl, h2], by rw [hl, List.length_drop]; omega⟩
theorem vle_fixL : ∀ (w n : Nat), vle (fixL n w) = ((n % 256 ^ w : Nat) : Int)
  | 0, n => by rw [fixL, vle_nil, Nat.pow_zero, Nat.mod_one]; rfl
  | w + 1, n => by
    rw [fixL, vle_cons, vle_fixL w (n / 256), Nat.pow_succ, Nat.mul_comm (256 ^ w) 256, Nat.mod_mul]
    omega
structure PutW (n0 : Nat) (want f cur : Nat) : Prop where
  len : want + (putN f cur).length = (putV n0).length + 1
  lt : cur < 128 ^ f
  pos : 1 ≤ f
  le : want + f ≤ 7
theorem PutW.zero {n : Nat} (h : n ≤ 1099511627775) : PutW n 1 6 n := ⟨by rw [putV_eq]; omega, by omega, by omega, by omega⟩
theorem PutW.succ {n0 want f cur : Nat} (h : PutW n0 want f cur) (hc : ¬ cur < 128) : PutW n0 (want + 1) (f - 1) (cur / 128) := by
  obtain ⟨h1, h2, h3, h4⟩ := h
  obtain ⟨g, rfl⟩ : ∃ g, f = g + 1 := ⟨f - 1, by omega⟩
  rw [putN_ge hc, List.length_cons] at h1
  cases g with
  | zero => omega
  | succ g =>
    refine ⟨?_, ?_, by omega, by omega⟩
    · show want + 1 + (putN (g + 1) (cur / 128)).length = _
      omega
    · show cur / 128 < 128 ^ (g + 1)
      rw [Nat.pow_succ] at h2
      exact Nat.div_lt_of_lt_mul (by rw [Nat.mul_comm]; exact h2)
theorem PutW.end {n0 want f cur : Nat} (h : PutW n0 want f cur) (hc : cur < 128) : (putV n0).length = want ∧ want ≤ 6 := by
  obtain ⟨h1, h2, h3, h4⟩ := h
  rw [putN_lt hc, List.length_singleton] at h1
  omega
def prs (D : List (Int × Int)) : List AV := (D.map fun d => [AV.i .i64 d.1, AV.i .i64 d.2]).flatten
theorem prs_cons (d : Int × Int) (D : List (Int × Int)) : prs (d :: D) = AV.i .i64 d.1 :: AV.i .i64 d.2 :: prs D := rfl
theorem inSL_prs {S : Nat → Prop} : ∀ D : List (Int × Int), AV.inSL S (prs D)
  | [] => by simp [prs, AV.inSL]
  | d :: D => by rw [prs_cons]; simp only [AV.inSL, AV.inS, true_and]; exact inSL_prs D
def Nums (l : List Int) : Prop := ∀ x ∈ l, 0 ≤ x ∧ x ≤ 1099511627775
theorem Nums.get {l : List Int} (h : Nums l) {i : Nat} (hi : i < l.length) : 0 ≤ l.getD i 0 ∧ l.getD i 0 ≤ 1099511627775 := by
  rw [List.getD_eq_getElem?_getD, List.getElem?_eq_getElem hi]; exact h _ (List.getElem_mem hi)
theorem Nums.succ {l : List Int} {i : Nat} (h : Nums (l.take i)) (hi : i < l.length) (hx : 0 ≤ l.getD i 0 ∧ l.getD i 0 ≤ 1099511627775) : Nums (l.take (i + 1)) := by
  intro x hm
  rw [List.take_succ_eq_append_getElem hi] at hm
  rcases List.mem_append.1 hm with hm | hm
  · exact h x hm
  · rw [List.getD_eq_getElem?_getD, List.getElem?_eq_getElem hi] at hx
    simp only [List.mem_singleton] at hm
    rw [hm]; exact hx
@[simp] theorem inSL_map_app {S : Nat → Prop} {k : IntKind} {l m : List Int} : AV.inSL S (List.map (AV.i k) l ++ List.map (AV.i k) m) := by rw [← List.map_append]; exact inSL_I _
theorem weak_frz {C : Ctx} {N : Nat} {E : List (Nat × AV)} {H H' : List (Nat × Blk)} {t k n sz : Nat} {e : TypeId} {kd : IntKind} {b : List Int} (hE : lk E t = some (.row k)) (hH : lk H k = some (.row e sz n (I kd b))) (hd : DelK H k H') (hb : b.length = n) :
    Weak C ⟨N, E, H⟩ ⟨N, (t, .vs n (I kd b)) :: (t, .sl k 0 n) :: E, H'⟩ :=
  Weak.trans (weak_sl hE hH) (weak_slv (us := I kd b) (by rw [lk_cons, if_pos rfl]) hH hd (by show ((I kd b).drop 0).take _ = _; rw [List.drop_zero, List.take_length]) (by rw [length_I]; omega) (inSL_I _))
attribute [simp] inSL_prs
attribute [irreducible] prs
end Go.Sk
namespace Go.Sk
def lb : List Int → Nat
  | [] => 0
  | c :: r => c.toNat + 256 * lb r
theorem lb_nil : lb [] = 0 := rfl
theorem lb_cons (c : Int) (r : List Int) : lb (c :: r) = c.toNat + 256 * lb r := rfl
theorem lb_append : ∀ a b : List Int, lb (a ++ b) = lb a + 256 ^ a.length * lb b
  | [], b => by simp [lb_nil]
  | c :: a, b => by
    rw [List.cons_append, lb_cons, lb_cons, lb_append a b, List.length_cons, Nat.pow_succ, Nat.mul_add, ← Nat.mul_assoc, Nat.mul_comm 256 (256 ^ a.length)]
    omega
theorem lb_lt : ∀ {l : List Int}, B8 l → lb l < 256 ^ l.length
  | [], _ => by simp [lb_nil]
  | c :: r, h => by
    have h1 := lb_lt (l := r) (fun x hx => h x (List.mem_cons_of_mem _ hx))
    have h0 := h c List.mem_cons_self
    rw [lb_cons, List.length_cons, Nat.pow_succ]
    omega
theorem fixL_nil (n : Nat) : fixL n 0 = [] := by rw [fixL]
theorem fixL_cons (n w : Nat) : fixL n (w + 1) = ((n % 256 : Nat) : Int) :: fixL (n / 256) w := by rw [fixL]
theorem fixL_lb : ∀ {l : List Int}, B8 l → fixL (lb l) l.length = l
  | [], _ => fixL_nil _
  | c :: r, h => by
    have h0 := h c List.mem_cons_self
    rw [List.length_cons, fixL_cons, lb_cons]
    have e1 : (c.toNat + 256 * lb r) / 256 = lb r := by omega
    rw [e1, fixL_lb (l := r) (fun x hx => h x (List.mem_cons_of_mem _ hx))]
    congr 1; omega
theorem fixL_of {l : List Int} {n w : Nat} (hb : B8 l) (hl : l.length = w) (h : lb l = n) : l = fixL n w := by subst hl; subst h; exact (fixL_lb hb).symm
theorem lb_take {l : List Int} {i : Nat} (h : i < l.length) : lb (l.take (i + 1)) = lb (l.take i) + 256 ^ i * (l.getD i 0).toNat := by
  rw [List.take_succ_eq_append_getElem h, lb_append, List.length_take, Nat.min_eq_left (by omega), lb_cons, lb_nil, List.getD_eq_getElem?_getD, List.getElem?_eq_getElem h]; rfl
def w2 (N : Nat) : List Int := [((N % 18446744073709551616 : Nat) : Int), ((N / 18446744073709551616 : Nat) : Int)]
structure Dig (ds : List Nat) : Prop where
  len : ds.length = 5
  lt : ∀ d ∈ ds, d < 18446744073709551616
theorem Dig.get {ds : List Nat} (h : Dig ds) (i : Nat) : ds.getD i 0 < 18446744073709551616 := by
  rw [List.getD_eq_getElem?_getD]
  rcases Nat.lt_or_ge i ds.length with hi | hi
  · rw [List.getElem?_eq_getElem hi]; exact h.lt _ (List.getElem_mem hi)
  · rw [List.getElem?_eq_none hi]; decide
theorem Dig.set {ds : List Nat} (h : Dig ds) {i v : Nat} (hv : v < 18446744073709551616) : Dig (ds.set i v) := by
  refine ⟨by rw [List.length_set]; exact h.len, fun d hd => ?_⟩
  rcases List.mem_or_eq_of_mem_set hd with hd | rfl
  · exact h.lt d hd
  · exact hv
theorem Dig.zero : Dig (List.replicate 5 0) := ⟨rfl, by intro d hd; rw [List.eq_of_mem_replicate hd]; decide⟩
theorem Dig.eq {ds : List Nat} (h : Dig ds) : ds = [ds.getD 0 0, ds.getD 1 0, ds.getD 2 0, ds.getD 3 0, ds.getD 4 0] := by
  match ds, h.len with
  | [a, b, c, d, e], _ => rfl
theorem lb_take' (l : List Int) (k : Nat) : lb (l.take (k + 1)) = lb (l.take k) + 256 ^ k * (l.getD k 0).toNat := by
  rcases Nat.lt_or_ge k l.length with h | h
  · exact lb_take h
  · rw [List.take_of_length_le h, List.take_of_length_le (by omega), List.getD_eq_getElem?_getD, List.getElem?_eq_none h]; simp
structure LesR (a b : List Int) (k : Nat) (o : List Int) (bw : Nat) : Prop where
  len : o.length = k
  b8 : B8 o
  le : bw ≤ 1
  eq : lb o + lb (b.take k) = lb (a.take k) + bw * 256 ^ k
theorem LesR.zero (a b : List Int) : LesR a b 0 [] 0 := ⟨rfl, (by intro x hx; cases hx), by decide, by simp [lb_nil]⟩
theorem LesR.succ {a b : List Int} {k : Nat} {o : List Int} {bw n bw1 : Nat} (h : LesR a b k o bw) (hn : n < 256) (h1 : bw1 ≤ 1) (he : n + (b.getD k 0).toNat + bw = (a.getD k 0).toNat + 256 * bw1) : LesR a b (k + 1) (o ++ [(n : Int)]) bw1 := by
  refine ⟨by rw [List.length_append, h.len]; rfl, B8_append h.b8 (by intro x hx; simp only [List.mem_singleton] at hx; subst hx; omega), h1, ?_⟩
  rw [lb_append, lb_take', lb_take', h.len, lb_cons, lb_nil, Int.toNat_natCast, Nat.pow_succ]
  have h2 := h.eq
  have h3 := congrArg (256 ^ k * ·) he
  simp only [Nat.mul_add] at h3
  rw [Nat.mul_zero, Nat.add_zero]
  have e : bw1 * (256 ^ k * 256) = 256 ^ k * (256 * bw1) := by rw [Nat.mul_comm, Nat.mul_assoc]
  rw [e]
  have e2 : bw * 256 ^ k = 256 ^ k * bw := Nat.mul_comm _ _
  rw [e2] at h2
  omega
theorem LesR.end {a b o : List Int} {bw : Nat} (h : LesR a b a.length o bw) (hb : b.length ≤ a.length) (hle : lb b ≤ lb a) : o = fixL (lb a - lb b) a.length := by
  have h1 := h.eq
  rw [List.take_of_length_le hb, List.take_length] at h1
  have h2 := lb_lt h.b8
  rw [h.len] at h2
  have h3 := h.le
  refine fixL_of h.b8 h.len ?_
  rcases (show bw = 0 ∨ bw = 1 by omega) with rfl | rfl <;> omega
def tagM : Nat → Nat → Nat → List Int → Nat
  | 0, _, a, _ => a
  | m + 1, r, a, l => tagM m r ((a + lb (l.take 16 ++ [1])) * r % 1361129467683753853853498429727072845819) (l.drop 16)
def tagV (r : Nat) (l : List Int) : Nat := tagM ((l.length + 15) / 16) r 0 l
structure TagR (r res m a : Nat) (l : List Int) : Prop where
  eq : tagM m r a l = res
  m : m = (l.length + 15) / 16
  lt : a < 1361129467683753853853498429727072845819
theorem TagR.zero (r : Nat) (l : List Int) : TagR r (tagV r l) ((l.length + 15) / 16) 0 l := ⟨rfl, rfl, by decide⟩
theorem TagR.succ {r res m a : Nat} {l : List Int} (h : TagR r res m a l) (hl : 0 < l.length) : TagR r res (m - 1) ((a + lb (l.take 16 ++ [1])) * r % 1361129467683753853853498429727072845819) (l.drop 16) := by
  obtain ⟨h1, h2, h3⟩ := h
  obtain ⟨n, rfl⟩ : ∃ n, m = n + 1 := ⟨m - 1, by omega⟩
  exact ⟨h1, by rw [List.length_drop]; omega, Nat.mod_lt _ (by decide)⟩
theorem TagR.end {r res m a : Nat} {l : List Int} (h : TagR r res m a l) (hl : l.length = 0) : a = res := by
  obtain ⟨h1, h2, h3⟩ := h
  have : m = 0 := by omega
  subst this
  exact h1
attribute [irreducible] lb tagM tagV
end Go.Sk
namespace Go.Sk
open Go.RowKit
section
variable {C : Ctx} {N : Nat} {E : List (Nat × AV)} {H : List (Nat × Blk)} {d : Nat} {ty : TypeId} {pos : String} {af : Array Edge} {g : Option (Nat × Bool)}
end
end Go.Sk
namespace Go.Sk
open Go.RowKit
section
variable {C : Ctx} {N : Nat} {E : List (Nat × AV)} {H : List (Nat × Blk)} {d : Nat} {ty : TypeId} {ps : String} {af : Array Edge} {g : Option (Nat × Bool)}
end
end Go.Sk
namespace Go.Sk
theorem xor_u8 {x y : Nat} (hx : x < 256) (hy : y < 256) : binI .xor .u8 (x : Int) (y : Int) = ((x ^^^ y : Nat) : Int) := by
  have hl : x ^^^ y < 2 ^ 8 := Nat.xor_lt_two_pow hx hy
  show IntKind.u8.wrap ((BitVec.ofInt 8 (x : Int) ^^^ BitVec.ofInt 8 (y : Int)).toNat : Int) = _
  have e1 : (BitVec.ofInt 8 (x : Int)).toNat = x := by simp; omega
  have e2 : (BitVec.ofInt 8 (y : Int)).toNat = y := by simp; omega
  rw [BitVec.toNat_xor, e1, e2, u8_conv (by omega)]
theorem xor_ne {c b : Int} (hc : 0 ≤ c ∧ c < 256) (hb : 0 ≤ b ∧ b < 256) (h0 : b ≠ 0) : binI .xor .u8 c b ≠ c ∧ 0 ≤ binI .xor .u8 c b ∧ binI .xor .u8 c b < 256 := by
  obtain ⟨x, rfl⟩ := Int.eq_ofNat_of_zero_le hc.1
  obtain ⟨y, rfl⟩ := Int.eq_ofNat_of_zero_le hb.1
  rw [xor_u8 (by omega) (by omega)]
  have hl : x ^^^ y < 2 ^ 8 := Nat.xor_lt_two_pow (by omega) (by omega)
  refine ⟨fun h => h0 ?_, by omega, by omega⟩
  have h1 : x ^^^ y = x := by omega
  have h2 : x ^^^ (x ^^^ y) = y := by rw [← Nat.xor_assoc, Nat.xor_self, Nat.zero_xor]
  rw [h1, Nat.xor_self] at h2
  omega
theorem B8_set {l : List Int} {i : Nat} {v : Int} (h : B8 l) (hv : 0 ≤ v ∧ v < 256) : B8 (l.set i v) := fun x hx => by
  rcases List.mem_or_eq_of_mem_set hx with hx | rfl
  · exact h x hx
  · exact hv
theorem cut_rest {s : List Int} {n ns : Nat} (h : s.length = ns) : AV.vs (ns - n) (I .u8 ((s.drop n).take (ns - n))) = .vs (s.drop n).length (I .u8 (s.drop n)) := by
  subst h; rw [← List.length_drop, List.take_length]
end Go.Sk
namespace Go.Sk
def bst (n : Nat) : Nat := if n % 2 = 1 then (n / 2) ^^^ 2197175160 else n / 2
def bsts : Nat → Nat → Nat
  | 0, n => n
  | k + 1, n => bst (bsts k n)
theorem bsts_succ (k n : Nat) : bsts (k + 1) n = bst (bsts k n) := rfl
theorem bsts_add : ∀ a b n : Nat, bsts (a + b) n = bsts a (bsts b n)
  | 0, b, n => by rw [Nat.zero_add]; rfl
  | a + 1, b, n => by rw [Nat.add_right_comm, bsts_succ, bsts_add a b n]; rfl
theorem xor_two (a b : Nat) : (a ^^^ b) / 2 = a / 2 ^^^ b / 2 := Nat.xor_div_two
theorem xor_par (a b : Nat) : (a ^^^ b) % 2 = (a + b) % 2 := by
  have h := Nat.testBit_xor a b 0
  simp only [Nat.testBit_zero] at h
  have h' : decide ((a ^^^ b) % 2 = 1) = xor (decide (a % 2 = 1)) (decide (b % 2 = 1)) := h
  by_cases hx : (a ^^^ b) % 2 = 1 <;> by_cases ha : a % 2 = 1 <;> by_cases hb : b % 2 = 1 <;> simp only [hx, ha, hb, decide_true, decide_false, Bool.xor_true, Bool.xor_false, Bool.not_true, Bool.not_false] at h' <;> first | omega | cases h'
theorem bst_xor (a b : Nat) : bst (a ^^^ b) = bst a ^^^ bst b := by
  unfold bst
  rw [xor_two, xor_par]
  rcases Nat.mod_two_eq_zero_or_one a with ha | ha <;> rcases Nat.mod_two_eq_zero_or_one b with hb | hb
  · rw [if_neg (by omega), if_neg (by omega), if_neg (by omega)]
  · rw [if_pos (by omega), if_neg (by omega), if_pos (by omega), Nat.xor_assoc]
  · rw [if_pos (by omega), if_pos (by omega), if_neg (by omega), Nat.xor_assoc, Nat.xor_assoc, Nat.xor_comm (b / 2)]
  · rw [if_neg (by omega), if_pos (by omega), if_pos (by omega), Nat.xor_assoc, Nat.xor_comm (b / 2), ← Nat.xor_assoc 2197175160, Nat.xor_self, Nat.zero_xor]
theorem bsts_xor : ∀ k a b : Nat, bsts k (a ^^^ b) = bsts k a ^^^ bsts k b
  | 0, _, _ => rfl
  | k + 1, a, b => by rw [bsts_succ, bsts_xor k a b, bst_xor]; rfl
theorem bst_lt {n : Nat} (h : n < 4294967296) : bst n < 4294967296 := by
  unfold bst
  split
  · exact Nat.xor_lt_two_pow (n := 32) (by omega) (by decide)
  · omega
theorem bsts_lt {n : Nat} (h : n < 4294967296) : ∀ k, bsts k n < 4294967296
  | 0 => h
  | k + 1 => bst_lt (bsts_lt h k)
theorem even_xor {a b c : Nat} (hc : c < 2) : (2 * a) ^^^ (2 * b + c) = 2 * (a ^^^ b) + c := by
  have h1 := xor_two (2 * a) (2 * b + c)
  have h2 := xor_par (2 * a) (2 * b + c)
  have e1 : 2 * a / 2 = a := by omega
  have e2 : (2 * b + c) / 2 = b := by omega
  rw [e1, e2] at h1
  omega
theorem split16 (q r : Nat) (h : r < 16) : (16 * q) ^^^ r = 16 * q + r := by
  have h1 := even_xor (a := 8 * q) (b := r / 2) (c := r % 2) (by omega)
  have h2 := even_xor (a := 4 * q) (b := r / 4) (c := r / 2 % 2) (by omega)
  have h3 := even_xor (a := 2 * q) (b := r / 8) (c := r / 4 % 2) (by omega)
  have h4 := even_xor (a := q) (b := 0) (c := r / 8 % 2) (by omega)
  have e0 : 2 * (r / 2) + r % 2 = r := by omega
  have e1 : 2 * (r / 4) + r / 2 % 2 = r / 2 := by omega
  have e2 : 2 * (r / 8) + r / 4 % 2 = r / 4 := by omega
  have e3 : 2 * 0 + r / 8 % 2 = r / 8 := by omega
  rw [e0] at h1; rw [e1] at h2; rw [e2] at h3; rw [e3, Nat.xor_zero] at h4
  have f1 : 2 * (8 * q) = 16 * q := by omega
  have f2 : 2 * (4 * q) = 8 * q := by omega
  have f3 : 2 * (2 * q) = 4 * q := by omega
  rw [f1] at h1; rw [f2] at h2; rw [f3] at h3
  omega
theorem bst_even (m : Nat) : bst (2 * m) = m := by unfold bst; rw [if_neg (by omega)]; omega
theorem bsts_16 (q : Nat) : bsts 4 (16 * q) = q := by
  show bst (bst (bst (bst (16 * q)))) = q
  rw [show 16 * q = 2 * (8 * q) by omega, bst_even, show 8 * q = 2 * (4 * q) by omega, bst_even, show 4 * q = 2 * (2 * q) by omega, bst_even, bst_even]
def nibT : List Int := [0, 274646895, 549293790, 820201905, 1098587580, 1361435347, 1640403810, 1905808397, 2197175160, 2460548119, 2722870694, 2987750089, 3280807620, 3553878443, 3811616794, 4084100981]
theorem nib_tab : ∀ r : _root_.Fin 16, (nibT.getD r.val 0) = ((bsts 4 r.val : Nat) : Int) := by decide +kernel
theorem length_nibT : nibT.length = 16 := rfl
theorem nib_get {r : Nat} (h : r < 16) : nibT.getD r 0 = ((bsts 4 r : Nat) : Int) := nib_tab ⟨r, h⟩
theorem nib_step (n : Nat) : bsts 4 (n % 16) ^^^ (n / 16) = bsts 4 n := by
  have h := split16 (n / 16) (n % 16) (by omega)
  rw [show 16 * (n / 16) + n % 16 = n by omega] at h
  conv => rhs; rw [← h]
  rw [bsts_xor, bsts_16, Nat.xor_comm]
def crcB (n : Nat) (c : Int) : Nat := bsts 8 (n ^^^ c.toNat)
def crcL (n : Nat) (l : List Int) : Nat := l.foldl crcB n
def crcS (l : List Int) : Nat := crcL 4294967295 l ^^^ 4294967295
theorem crcL_snoc (n : Nat) (l : List Int) (c : Int) : crcL n (l ++ [c]) = crcB (crcL n l) c := by unfold crcL; rw [List.foldl_append]; rfl
theorem crcL_append (n : Nat) (a b : List Int) : crcL n (a ++ b) = crcL (crcL n a) b := by unfold crcL; rw [List.foldl_append]
theorem crcL_cons (n : Nat) (c : Int) (l : List Int) : crcL n (c :: l) = crcL (crcB n c) l := by unfold crcL; rw [List.foldl_cons]
theorem crcB_lt {n : Nat} {c : Int} (h : n < 4294967296) (hc : 0 ≤ c ∧ c < 256) : crcB n c < 4294967296 := bsts_lt (Nat.xor_lt_two_pow (n := 32) (by omega) (by omega)) 8
theorem crcL_lt : ∀ {l : List Int} {n : Nat}, B8 l → n < 4294967296 → crcL n l < 4294967296
  | [], _, _, h => h
  | c :: l, n, hb, h => by rw [crcL_cons]; exact crcL_lt (fun x hx => hb x (List.mem_cons_of_mem _ hx)) (crcB_lt h (hb c List.mem_cons_self))
theorem crcS_lt {l : List Int} (h : B8 l) : crcS l < 4294967296 := Nat.xor_lt_two_pow (n := 32) (crcL_lt h (by decide)) (by decide)
theorem crc_take {l : List Int} {i n : Nat} (h : i < l.length) : crcB (crcL n (l.take i)) (l.getD i 0) = crcL n (l.take (i + 1)) := by
  rw [List.take_succ_eq_append_getElem h, crcL_snoc, List.getD_eq_getElem?_getD, List.getElem?_eq_getElem h]; rfl
theorem xor_canc {a b c : Nat} (h : a ^^^ c = b ^^^ c) : a = b := by
  have h1 := congrArg (· ^^^ c) h
  simpa only [Nat.xor_assoc, Nat.xor_self, Nat.xor_zero] using h1
theorem bst_inj {a b : Nat} (ha : a < 4294967296) (hb : b < 4294967296) (h : bst a = bst b) : a = b := by
  unfold bst at h
  have key : ∀ x y : Nat, x < 2147483648 → y < 2147483648 → x ^^^ 2197175160 = y → False := fun x y hx hy e => by
    have h1 : 2197175160 = x ^^^ y := by rw [← e, ← Nat.xor_assoc, Nat.xor_self, Nat.zero_xor]
    have h2 : x ^^^ y < 2 ^ 31 := Nat.xor_lt_two_pow (by omega) (by omega)
    rw [← h1] at h2
    omega
  split at h <;> split at h
  · have := xor_canc h; omega
  · exact (key _ _ (by omega) (by omega) h).elim
  · exact (key _ _ (by omega) (by omega) h.symm).elim
  · omega
theorem bsts_inj {a b : Nat} (ha : a < 4294967296) (hb : b < 4294967296) : ∀ k, bsts k a = bsts k b → a = b
  | 0, h => h
  | k + 1, h => bsts_inj ha hb k (bst_inj (bsts_lt ha k) (bsts_lt hb k) h)
theorem crcB_inj {a b : Nat} {c : Int} (ha : a < 4294967296) (hb : b < 4294967296) (hc : 0 ≤ c ∧ c < 256) (h : crcB a c = crcB b c) : a = b :=
  xor_canc (bsts_inj (Nat.xor_lt_two_pow (n := 32) (by omega) (by omega)) (Nat.xor_lt_two_pow (n := 32) (by omega) (by omega)) 8 h)
theorem crcL_inj : ∀ {l : List Int} {a b : Nat}, B8 l → a < 4294967296 → b < 4294967296 → crcL a l = crcL b l → a = b
  | [], _, _, _, _, _, h => h
  | c :: l, a, b, hl, ha, hb, h => by
    rw [crcL_cons, crcL_cons] at h
    have hc := hl c List.mem_cons_self
    exact crcB_inj ha hb hc (crcL_inj (fun x hx => hl x (List.mem_cons_of_mem _ hx)) (crcB_lt ha hc) (crcB_lt hb hc) h)
theorem crcS_set {l : List Int} {i : Nat} {v : Int} (hl : B8 l) (hi : i < l.length) (hv : 0 ≤ v ∧ v < 256) (hne : v ≠ l.getD i 0) : crcS (l.set i v) ≠ crcS l := by
  intro h
  have h1 := xor_canc h
  have hg := hl.get i
  have e1 : l = l.take i ++ l.getD i 0 :: l.drop (i + 1) := by
    rw [List.getD_eq_getElem?_getD, List.getElem?_eq_getElem hi]
    conv => lhs; rw [← List.take_append_drop i l, List.drop_eq_getElem_cons hi]
    rfl
  have e2 : l.set i v = l.take i ++ v :: l.drop (i + 1) := List.set_eq_take_append_cons_drop.trans (if_pos hi)
  have hb1 : B8 (l.take i) := fun x hx => hl x (List.mem_of_mem_take hx)
  have hb2 : B8 (l.drop (i + 1)) := fun x hx => hl x (List.mem_of_mem_drop hx)
  rw [e2] at h1
  conv at h1 => rhs; rw [e1]
  rw [crcL_append, crcL_append, crcL_cons, crcL_cons] at h1
  have hs := crcL_lt hb1 (show 4294967295 < 4294967296 by decide)
  have h2 := crcL_inj hb2 (crcB_lt hs hv) (crcB_lt hs hg) h1
  have h3 := bsts_inj (Nat.xor_lt_two_pow (n := 32) (by omega) (by omega)) (Nat.xor_lt_two_pow (n := 32) (by omega) (by omega)) 8 h2
  rw [Nat.xor_comm, Nat.xor_comm (crcL _ _)] at h3
  have h4 := xor_canc h3
  omega
theorem xor_u32 {x y : Nat} (hx : x < 4294967296) (hy : y < 4294967296) : binI .xor .u32 (x : Int) (y : Int) = ((x ^^^ y : Nat) : Int) := by
  have hl : x ^^^ y < 2 ^ 32 := Nat.xor_lt_two_pow hx hy
  show IntKind.u32.wrap ((BitVec.ofInt 32 (x : Int) ^^^ BitVec.ofInt 32 (y : Int)).toNat : Int) = _
  have e1 : (BitVec.ofInt 32 (x : Int)).toNat = x := by simp; omega
  have e2 : (BitVec.ofInt 32 (y : Int)).toNat = y := by simp; omega
  rw [BitVec.toNat_xor, e1, e2, u32_wrap]
  omega
theorem and15_u32 {x : Nat} (hx : x < 4294967296) : binI .and .u32 (x : Int) 15 = ((x % 16 : Nat) : Int) := by
  show IntKind.u32.wrap ((BitVec.ofInt 32 (x : Int) &&& BitVec.ofInt 32 15).toNat : Int) = _
  have e1 : (BitVec.ofInt 32 (x : Int)).toNat = x := by simp; omega
  have e2 : (BitVec.ofInt 32 15).toNat = 15 := by decide
  have e3 : x &&& 15 = x % 16 := Nat.and_two_pow_sub_one_eq_mod x 4
  rw [BitVec.toNat_and, e1, e2, e3, u32_wrap]
  omega
theorem shr4_u32 {x : Nat} : binI .shr .u32 (x : Int) 4 = ((x / 16 : Nat) : Int) := by
  have h := shr_n (k := .u32) (a := (x : Int)) (b := 4) (n := 4) rfl (by decide)
  rw [h]; show (x : Int) / 16 = _; omega
theorem not_u32 {x : Nat} (hx : x < 4294967296) : unI .xor .u32 (x : Int) = ((x ^^^ 4294967295 : Nat) : Int) := by
  have hl : x ^^^ 4294967295 < 2 ^ 32 := Nat.xor_lt_two_pow hx (by decide)
  show IntKind.u32.wrap ((BitVec.ofInt 32 4294967295 ^^^ BitVec.ofInt 32 (x : Int)).toNat : Int) = _
  have e1 : (BitVec.ofInt 32 (x : Int)).toNat = x := by simp; omega
  have e2 : (BitVec.ofInt 32 4294967295).toNat = 4294967295 := by decide
  rw [BitVec.toNat_xor, e1, e2, Nat.xor_comm, u32_wrap]
  omega
theorem crcL_nil (n : Nat) : crcL n [] = n := rfl
theorem crcB_eq (n : Nat) (c : Int) : crcB n c = bsts 4 (bsts 4 (n ^^^ c.toNat)) := bsts_add 4 4 _
theorem bsts_zero (n : Nat) : bsts 0 n = n := rfl
theorem bst_0 {n : Nat} (h : n % 2 = 0) : bst n = n / 2 := by unfold bst; rw [if_neg (by omega)]
theorem bst_1 {n : Nat} (h : n % 2 = 1) : bst n = n / 2 ^^^ 2197175160 := by unfold bst; rw [if_pos h]
theorem nrem_u32 {x : Nat} : binI .rem .u32 (x : Int) 2 = ((x % 2 : Nat) : Int) := by rw [rem_nn (by omega)]; omega
theorem nquo_u32 {x : Nat} (h : x < 4294967296) : binI .quo .u32 (x : Int) 2 = ((x / 2 : Nat) : Int) := by
  show IntKind.u32.wrap ((x : Int).tdiv 2) = _
  rw [Int.tdiv_eq_ediv_of_nonneg (by omega), u32_wrap]
  omega
attribute [irreducible] bst bsts crcB crcL crcS nibT
end Go.Sk
namespace Go.Sk
def recX (k : Int) (id : List Int) (v n : Int) (z : AV) : List AV := .i .i64 k :: (I .u8 id ++ [.i .i64 v, .i .i64 n, z])
def bodyV (b : List Int) : AV := .vs b.length (I .u8 b)
def planX (c w t : Int) (dg : List Int) : List AV := .i .i64 c :: .i .i64 w :: .i .i64 t :: I .u8 dg
@[simp] theorem inS_bodyV {b : List Int} {S : Nat → Prop} : (bodyV b).inS S := inSL_I b
section
variable {k v n : Int} {id : List Int} {z : AV} {t : TypeId} {S : Nat → Prop}
@[simp] theorem inSL_recX : AV.inSL S (recX k id v n z) ↔ z.inS S := by
  unfold recX
  rw [inSL_iff]
  simp only [List.mem_cons, List.mem_append, List.not_mem_nil, or_false]
  constructor
  · intro h; exact h z (.inr (.inr (.inr (.inr rfl))))
  · rintro h x (rfl | hx | rfl | rfl | rfl)
    · simp [AV.inS]
    · exact inSL_iff.1 (inSL_I _) x hx
    · simp [AV.inS]
    · simp [AV.inS]
    · exact h
theorem one_recX (hz : z.one = true) : (recX k id v n z).all AV.one = true := by
  unfold recX
  rw [List.all_cons, List.all_append]
  have := one_I (k := .u8) (ws := id)
  rw [this]
  simp only [List.all_cons, List.all_nil, hz]
  rfl
theorem flat_recX (hz : z.one = true) : (AV.ag (recX k id v n z)).flat = true := one_recX hz
theorem length_recX (h : id.length = 16) : (recX k id v n z).length = 20 := by unfold recX; simp [h]
theorem rec_get (h : id.length = 16) : (recX k id v n z)[0]? = some (.i .i64 k) ∧ (recX k id v n z)[17]? = some (.i .i64 v) ∧ (recX k id v n z)[18]? = some (.i .i64 n) ∧ (recX k id v n z)[19]? = some z := by
  unfold recX
  refine ⟨rfl, ?_, ?_, ?_⟩ <;> rw [List.getElem?_cons_succ, List.getElem?_append_right (by simp [h])] <;> simp [h]
theorem unit_rk : unit false 1 ((Blk.blk t (recX k id v n z)).cs.drop 0) (.i .i64 k) := ⟨by simp [Blk.cs, recX], rfl⟩
theorem unit_rv (h : id.length = 16) : unit false 1 ((Blk.blk t (recX k id v n z)).cs.drop 17) (.i .i64 v) := unit_get (rec_get h).2.1
theorem unit_rn (h : id.length = 16) : unit false 1 ((Blk.blk t (recX k id v n z)).cs.drop 18) (.i .i64 n) := unit_get (rec_get h).2.2.1
theorem unit_rz (h : id.length = 16) : unit false 1 ((Blk.blk t (recX k id v n z)).cs.drop 19) z := unit_get (rec_get h).2.2.2
theorem rec_id (h : id.length = 16) : ((recX k id v n z).drop 1).take 16 = I .u8 id := by
  unfold recX; rw [List.drop_succ_cons, List.drop_zero]; exact List.take_left' (by simp [h])
theorem unit_rid (h : id.length = 16) : unit true 16 ((Blk.blk t (recX k id v n z)).cs.drop 1) (.ag (I .u8 id)) := by
  refine ⟨?_, ?_⟩
  · show 16 ≤ ((recX k id v n z).drop 1).length
    rw [List.length_drop, length_recX h]; decide
  · show AV.ag (I .u8 id) = .ag (((recX k id v n z).drop 1).take 16)
    rw [rec_id h]
theorem unit_rall (h : id.length = 16) : unit true 20 ((Blk.blk t (recX k id v n z)).cs.drop 0) (.ag (recX k id v n z)) := by
  refine ⟨by show 20 ≤ _; rw [show ((Blk.blk t (recX k id v n z)).cs.drop 0) = recX k id v n z from rfl, length_recX h]; decide, ?_⟩
  show _ = AV.ag ((recX k id v n z).take 20)
  rw [List.take_of_length_le (by rw [length_recX h]; decide)]
theorem unit_rid1 {i : Nat} (h : id.length = 16) (hi : i < 16) : unit false 1 ((Blk.blk t (recX k id v n z)).cs.drop (1 + i)) (.i .u8 (id.getD i 0)) := by
  refine unit_get ?_
  show (recX k id v n z)[1 + i]? = _
  unfold recX
  rw [Nat.add_comm, List.getElem?_cons_succ, List.getElem?_append_left (by simp [h]; omega)]
  simp [List.getD_eq_getElem?_getD, h, hi]
theorem put_rk {k' : Int} : (Blk.blk t (recX k id v n z)).put 0 [.i .i64 k'] = .blk t (recX k' id v n z) := by
  simp [Blk.put, over, recX]
theorem put_rv {v' : Int} (h : id.length = 16) : (Blk.blk t (recX k id v n z)).put 17 [.i .i64 v'] = .blk t (recX k id v' n z) := by
  simp [Blk.put, over, recX, List.take_append, List.drop_append, h]
theorem put_rn {n' : Int} (h : id.length = 16) : (Blk.blk t (recX k id v n z)).put 18 [.i .i64 n'] = .blk t (recX k id v n' z) := by
  have e1 : (I .u8 id).take 17 = I .u8 id := List.take_of_length_le (by simp [h])
  have e2 : (I .u8 id).drop 18 = [] := List.drop_of_length_le (by simp [h])
  simp [Blk.put, over, recX, List.take_append, List.drop_append, h, e1, e2]
theorem put_rz {z' : AV} (h : id.length = 16) : (Blk.blk t (recX k id v n z)).put 19 [z'] = .blk t (recX k id v n z') := by
  have e1 : (I .u8 id).take 18 = I .u8 id := List.take_of_length_le (by simp [h])
  have e2 : (I .u8 id).drop 19 = [] := List.drop_of_length_le (by simp [h])
  simp [Blk.put, over, recX, List.take_append, List.drop_append, h, e1, e2]
theorem put_rid {i : Nat} {c : Int} (h : id.length = 16) (hi : i < 16) : (Blk.blk t (recX k id v n z)).put (1 + i) [.i .u8 c] = .blk t (recX k (id.set i c) v n z) := by
  have h1 := over_I (k := .u8) (ws := id) (m := i) (v := c) (by omega)
  show Blk.blk t _ = _
  congr 1
  unfold recX
  rw [← h1]
  unfold over
  have e1 : (AV.i .i64 k :: (I .u8 id ++ [AV.i .i64 v, .i .i64 n, z])).take (1 + i) = .i .i64 k :: (I .u8 id).take i := by
    rw [Nat.add_comm, List.take_succ_cons, List.take_append_of_le_length (by simp [h]; omega)]
  have e2 : (AV.i .i64 k :: (I .u8 id ++ [AV.i .i64 v, .i .i64 n, z])).drop (1 + i + [AV.i .u8 c].length) = (I .u8 id).drop (i + [AV.i .u8 c].length) ++ [AV.i .i64 v, .i .i64 n, z] := by
    rw [show 1 + i + [AV.i .u8 c].length = i + [AV.i .u8 c].length + 1 by omega, List.drop_succ_cons, List.drop_append_of_le_length (by simp [h]; omega)]
  rw [e1, e2]
  simp
theorem put_rall {k' v' n' : Int} {id' : List Int} {z' : AV} (h : id.length = 16) (h' : id'.length = 16) : (Blk.blk t (recX k id v n z)).put 0 (AV.ag (recX k' id' v' n' z')).cells = .blk t (recX k' id' v' n' z') :=
  put_all (by rw [length_recX h]; exact (length_recX h').symm)
theorem ren_recB {τ : Nat → Nat} (hz : z.inS (fun _ => False)) : (Blk.blk t (recX k id v n z)).ren τ = .blk t (recX k id v n z) := Blk.ren_free (show Blk.inS (fun _ => False) (Blk.blk t (recX k id v n z)) from inSL_recX.2 hz) τ
end
section
variable {c w t : Int} {dg : List Int} {ty : TypeId} {S : Nat → Prop}
@[simp] theorem inSL_planX : AV.inSL S (planX c w t dg) := by unfold planX; simp only [AV.inSL, AV.inS, true_and]; exact inSL_I _
theorem one_planX : (planX c w t dg).all AV.one = true := by
  unfold planX
  have := one_I (k := .u8) (ws := dg)
  simp only [List.all_cons, this, AV.one, Bool.and_self]
theorem flat_planX : (AV.ag (planX c w t dg)).flat = true := one_planX
theorem length_planX (h : dg.length = 32) : (planX c w t dg).length = 35 := by unfold planX; simp [h]
theorem unit_pc : unit false 1 ((Blk.blk ty (planX c w t dg)).cs.drop 0) (.i .i64 c) := ⟨by simp [Blk.cs, planX], rfl⟩
theorem unit_pw : unit false 1 ((Blk.blk ty (planX c w t dg)).cs.drop 1) (.i .i64 w) := ⟨by simp [Blk.cs, planX], rfl⟩
theorem unit_pt : unit false 1 ((Blk.blk ty (planX c w t dg)).cs.drop 2) (.i .i64 t) := ⟨by simp [Blk.cs, planX], rfl⟩
theorem unit_pall (h : dg.length = 32) : unit true 35 ((Blk.blk ty (planX c w t dg)).cs.drop 0) (.ag (planX c w t dg)) := by
  refine ⟨by show 35 ≤ (planX c w t dg).length; rw [length_planX h]; decide, ?_⟩
  show _ = AV.ag ((planX c w t dg).take 35)
  rw [List.take_of_length_le (by rw [length_planX h]; decide)]
theorem put_pc {x : Int} : (Blk.blk ty (planX c w t dg)).put 0 [.i .i64 x] = .blk ty (planX x w t dg) := by simp [Blk.put, over, planX]
theorem put_pw {x : Int} : (Blk.blk ty (planX c w t dg)).put 1 [.i .i64 x] = .blk ty (planX c x t dg) := by simp [Blk.put, over, planX]
theorem put_pt {x : Int} : (Blk.blk ty (planX c w t dg)).put 2 [.i .i64 x] = .blk ty (planX c w x dg) := by simp [Blk.put, over, planX]
theorem put_pd {i : Nat} {x : Int} (h : i < dg.length) : (Blk.blk ty (planX c w t dg)).put (3 + i) [.i .u8 x] = .blk ty (planX c w t (dg.set i x)) := by
  have h1 := over_I (k := .u8) (ws := dg) (m := i) (v := x) h
  show Blk.blk ty _ = _
  congr 1
  unfold planX
  rw [← h1]
  unfold over
  rw [show 3 + i = i + 1 + 1 + 1 by omega, show i + 1 + 1 + 1 + [AV.i .u8 x].length = i + [AV.i .u8 x].length + 1 + 1 + 1 by omega]
  simp only [List.take_succ_cons, List.drop_succ_cons, List.cons_append]
theorem put_pall {c' w' t' : Int} {dg' : List Int} (h : dg.length = 32) (h' : dg'.length = 32) : (Blk.blk ty (planX c w t dg)).put 0 (AV.ag (planX c' w' t' dg')).cells = .blk ty (planX c' w' t' dg') :=
  put_all (by rw [length_planX h]; exact (length_planX h').symm)
theorem ren_planB {τ : Nat → Nat} : (Blk.blk ty (planX c w t dg)).ren τ = .blk ty (planX c w t dg) := Blk.ren_free (show Blk.inS (fun _ => False) (Blk.blk ty (planX c w t dg)) from inSL_planX) τ
theorem plan_dg (h : dg.length = 32) : ((planX c w t dg).drop 3).take 32 = I .u8 dg := by
  show (I .u8 dg).take 32 = I .u8 dg
  exact List.take_of_length_le (by simp [h])
end
def RightR (k v n : Int) (nb : Nat) : Prop := 1 ≤ k ∧ k ≤ 4 ∧ 0 ≤ v ∧ v ≤ 63 ∧ 0 ≤ n ∧ n ≤ 1099511627775 ∧ nb ≤ 262144
def MayP (c w t : Int) : Prop := 1 ≤ c ∧ c ≤ 65536 ∧ 1 ≤ w ∧ w ≤ 32768 ∧ 0 ≤ t ∧ t ≤ 4194304
def hdrL (k : Int) (id : List Int) (v n : Int) : List Int := [84, 65, 80, 69, k] ++ id ++ putV v.toNat ++ putV n.toNat
def encB (k : Int) (id : List Int) (v n : Int) (b : List Int) : List Int := hdrL k id v n ++ putV b.length ++ b
def encL (k : Int) (id : List Int) (v n : Int) (b : List Int) : List Int := encB k id v n b ++ fixL (crcS (encB k id v n b)) 4
def planL (c w t : Int) (dg : List Int) : List Int := putV c.toNat ++ putV w.toNat ++ putV t.toNat ++ dg
def segsN (c t : Int) : Int := (t + c - 1) / c
section
variable {k v n : Int} {id b : List Int}
theorem length_putV7 (m : Nat) : (putV m).length ≤ 7 := by rw [putV_eq]; exact length_putN 6 m
theorem length_hdrL : (hdrL k id v n).length = 5 + id.length + (putV v.toNat).length + (putV n.toNat).length := by
  unfold hdrL; simp only [List.length_append]; rfl
theorem length_encB : (encB k id v n b).length = (hdrL k id v n).length + (putV b.length).length + b.length := by unfold encB; simp only [List.length_append]
theorem length_encL : (encL k id v n b).length = (encB k id v n b).length + 4 := by unfold encL; rw [List.length_append, length_fixL]
theorem B8_hdrL (hR : RightR k v n b.length) (hi : B8 id) : B8 (hdrL k id v n) := by
  obtain ⟨h1, h2, h3, h4, h5, h6, _⟩ := hR
  unfold hdrL
  refine B8_append (B8_append (B8_append ?_ hi) (B8_putV (by omega))) (B8_putV (by omega))
  intro x hx
  simp only [List.mem_cons, List.not_mem_nil, or_false] at hx
  rcases hx with rfl | rfl | rfl | rfl | rfl <;> omega
theorem B8_encB (hR : RightR k v n b.length) (hi : B8 id) (hb : B8 b) : B8 (encB k id v n b) := by
  unfold encB
  exact B8_append (B8_append (B8_hdrL hR hi) (B8_putV (by have := hR.2.2.2.2.2.2; omega))) hb
theorem B8_encL (hR : RightR k v n b.length) (hi : B8 id) (hb : B8 b) : B8 (encL k id v n b) := B8_append (B8_encB hR hi hb) (B8_fixL _ _)
end
attribute [irreducible] recX planX hdrL encB encL planL
end Go.Sk
namespace Go.Sk
theorem cut_pre {s : List Int} {n ns : Nat} (h : s.length = ns) (hn : n ≤ ns) : AV.vs (n - 0) (I .u8 ((s.drop 0).take (n - 0))) = .vs (s.take n).length (I .u8 (s.take n)) := by
  rw [Nat.sub_zero, List.drop_zero, List.length_take, Nat.min_eq_left (by omega)]
theorem fix_all {c : List Int} (h : c.length = 4) : FixS c 0 4 0 [] c := by
  have := FixS.ok (b := c) (e := 0) (width := 4) 4 rfl rfl (by decide) (by omega)
  rwa [List.drop_of_length_le (by omega), List.take_of_length_le (by omega)] at this
theorem mg_ne {c : List Int} (h : c ≠ [84, 65, 80, 69]) (hb : B8 c) : bs c ≠ ⟨#[84, 65, 80, 69]⟩ := by
  intro e
  exact h (bs_inj hb (by unfold B8; decide) (e.trans (by decide)))
theorem FixS.val {c c1 x : List Int} {e e1 : Int} (h : FixS c e 1 e1 c1 x) (hb : B8 c) : 0 ≤ vle x ∧ vle x < 256 := by
  have key : ∀ l : List Int, B8 l → l.length ≤ 1 → 0 ≤ vle l ∧ vle l < 256 := fun l hl h1 => by
    have := vle_lt hl h1
    omega
  cases h with
  | err => exact key [] (by intro x hx; cases hx) (by decide)
  | range => exact key [] (by intro x hx; cases hx) (by decide)
  | short => exact key [] (by intro x hx; cases hx) (by decide)
  | ok wd he hw h8 hk =>
    obtain rfl : wd = 1 := by omega
    exact key _ (fun x hx => hb x (List.mem_of_mem_take hx)) (by rw [List.length_take]; omega)
theorem chain_ok {c0 x0 : List Int} {C : Nat → List Int} {E : Nat → Int} {X : Nat → List Int} (h0 : FixS c0 0 1 (E 0) (C 0) x0) {w : Nat} (hF : ∀ i, i < w → FixS (C i) (E i) 1 (E (i + 1)) (C (i + 1)) (X i)) (hb : B8 c0) : ∀ i, i ≤ w → B8 (C i) ∧ (C i).length ≤ c0.length
  | 0, _ => ⟨h0.b8 hb, h0.len⟩
  | i + 1, hi => by
    obtain ⟨g1, g2⟩ := chain_ok h0 hF hb i (by omega)
    have hf := hF i (by omega)
    exact ⟨hf.b8 g1, Nat.le_trans hf.len g2⟩
def idN (X : Nat → List Int) (w i : Nat) : List Int := (List.range i).map (fun j => vle (X j)) ++ List.replicate (w - i) 0
def idP (X : Nat → List Int) (i : Nat) : List Int := idN X 16 i
theorem length_idN (X : Nat → List Int) {w i : Nat} (h : i ≤ w) : (idN X w i).length = w := by simp [idN]; omega
theorem length_idP (X : Nat → List Int) {i : Nat} (h : i ≤ 16) : (idP X i).length = 16 := length_idN X h
theorem idN_zero (X : Nat → List Int) (w : Nat) : idN X w 0 = List.replicate w 0 := by simp [idN]
theorem idP_zero (X : Nat → List Int) : idP X 0 = List.replicate 16 0 := idN_zero X 16
theorem idN_set {X : Nat → List Int} {w i : Nat} (h : i < w) : (idN X w i).set i (vle (X i)) = idN X w (i + 1) := by
  unfold idN
  have h1 : ((List.range i).map fun j => vle (X j)).length = i := by simp
  conv => lhs; rw [List.set_append_right _ _ (by omega), h1, Nat.sub_self, show w - i = w - (i + 1) + 1 by omega, List.replicate_succ, List.set_cons_zero]
  rw [List.range_succ, List.map_append, List.append_assoc]; rfl
theorem idP_set {X : Nat → List Int} {i : Nat} (h : i < 16) : idP X (i + 1) = (idP X i).set i (vle (X i)) := (idN_set h).symm
theorem B8_idN {C : Nat → List Int} {E : Nat → Int} {X : Nat → List Int} {w : Nat} (hF : ∀ i, i < w → FixS (C i) (E i) 1 (E (i + 1)) (C (i + 1)) (X i)) {c0 : List Int} (hch : ∀ i, i ≤ w → B8 (C i) ∧ (C i).length ≤ c0.length) : B8 (idN X w w) := by
  intro x hx
  unfold idN at hx
  rcases List.mem_append.1 hx with hx | hx
  · obtain ⟨j, hj, rfl⟩ := List.mem_map.1 hx
    have hj := List.mem_range.1 hj
    exact (hF j hj).val (hch j (by omega)).1
  · rw [List.eq_of_mem_replicate hx]; decide
theorem B8_idP {C : Nat → List Int} {E : Nat → Int} {X : Nat → List Int} (hF : ∀ i, i < 16 → FixS (C i) (E i) 1 (E (i + 1)) (C (i + 1)) (X i)) {c0 : List Int} (hch : ∀ i, i ≤ 16 → B8 (C i) ∧ (C i).length ≤ c0.length) : B8 (idP X 16) := B8_idN hF hch
theorem chain_ex (w : Nat) : ∀ (c : List Int) (e : Int), ∃ (C : Nat → List Int) (E : Nat → Int) (X : Nat → List Int), C 0 = c ∧ E 0 = e ∧ ∀ i, i < w → FixS (C i) (E i) 1 (E (i + 1)) (C (i + 1)) (X i) := by
  induction w with
  | zero => exact fun c e => ⟨fun _ => c, fun _ => e, fun _ => [], rfl, rfl, fun i h => by omega⟩
  | succ w ih =>
    intro c e
    obtain ⟨C, E, X, h1, h2, h3⟩ := ih c e
    obtain ⟨e', c', x', h4⟩ := fixS_ex (C w) (E w) 1
    refine ⟨fun i => if i ≤ w then C i else c', fun i => if i ≤ w then E i else e', fun i => if i < w then X i else x', by simp [h1], by simp [h2], fun i hi => ?_⟩
    rcases Nat.lt_or_ge i w with hlt | hge
    · simp only [if_pos (show i ≤ w by omega), if_pos (show i + 1 ≤ w by omega), if_pos hlt]
      exact h3 i hlt
    · obtain rfl : i = w := by omega
      simp only [if_pos (Nat.le_refl i), if_neg (show ¬ i + 1 ≤ i by omega), if_neg (Nat.lt_irrefl i)]
      exact h4
theorem FixS.inv {c c1 x : List Int} {e e1 : Int} (h : FixS c e 1 e1 c1 x) (h1 : e1 = 0) : e = 0 ∧ c = vle x :: c1 := by
  cases h with
  | err he => exact absurd h1 he
  | range => exact absurd h1 (by decide)
  | short => exact absurd h1 (by decide)
  | ok wd he hw h8 hk =>
    obtain rfl : wd = 1 := by omega
    refine ⟨he, ?_⟩
    match c, hk with
    | a :: r, _ => simp [vle_cons, vle_nil]
theorem chain_inv {C : Nat → List Int} {E : Nat → Int} {X : Nat → List Int} {w : Nat} (hF : ∀ i, i < w → FixS (C i) (E i) 1 (E (i + 1)) (C (i + 1)) (X i)) : ∀ i, i ≤ w → E i = 0 → E 0 = 0 ∧ C 0 = (List.range i).map (fun j => vle (X j)) ++ C i
  | 0, _, h => ⟨h, rfl⟩
  | i + 1, hi, h => by
    obtain ⟨g1, g2⟩ := (hF i (by omega)).inv h
    obtain ⟨g3, g4⟩ := chain_inv hF i (by omega) g1
    refine ⟨g3, ?_⟩
    rw [g4, g2, List.range_succ, List.map_append, List.append_assoc]; rfl
theorem NumS.inv {c c1 : List Int} {e e1 most v : Int} (h : NumS c e most e1 c1 v) (hb : B8 c) (h1 : e1 = 0) : e = 0 ∧ c = putV v.toNat ++ c1 ∧ 0 ≤ v ∧ v ≤ most := by
  cases h with
  | err he => exact absurd h1 he
  | go he hR =>
    subst h1
    have hv : v ≤ most := by cases hR with | ok _ _ _ hm => exact hm.1
    obtain ⟨n, rfl, hn, hp, hl⟩ := hR.can hb
    refine ⟨he, ?_, by omega, hv⟩
    rw [Int.toNat_natCast]
    have : c1 = c.drop (putV n).length := by
      generalize hgv : (n : Int) = vv at hR
      cases hR with
      | ok g1 g2 g3 g4 =>
        have : (c.drop (ix7 c + 1)).length = c.length - (ix7 c + 1) := List.length_drop
        congr 1
        omega
    rw [this]
    conv => lhs; rw [← List.take_append_drop (putV n).length c]
    rw [← hp]
theorem chain_put (l rest : List Int) : ∃ (C : Nat → List Int) (E : Nat → Int) (X : Nat → List Int), C 0 = l ++ rest ∧ E 0 = 0 ∧ C l.length = rest ∧ E l.length = 0 ∧ (∀ j, j < l.length → vle (X j) = l.getD j 0) ∧ ∀ i, i < l.length → FixS (C i) (E i) 1 (E (i + 1)) (C (i + 1)) (X i) := by
  refine ⟨fun i => l.drop i ++ rest, fun _ => 0, fun i => [l.getD i 0], rfl, rfl, by simp, rfl, fun j hj => by simp [vle_cons, vle_nil], fun i hi => ?_⟩
  have h := FixS.ok (b := l.drop i ++ rest) (e := 0) (width := 1) 1 rfl rfl (by decide) (by rw [List.length_append, List.length_drop]; omega)
  rw [List.drop_eq_getElem_cons hi] at h
  have e1 : l.getD i 0 = l[i] := by rw [List.getD_eq_getElem?_getD, List.getElem?_eq_getElem hi]; rfl
  show FixS (l.drop i ++ rest) 0 1 0 (l.drop (i + 1) ++ rest) [l.getD i 0]
  rw [e1, List.drop_eq_getElem_cons hi]
  exact h
theorem idN_of {X : Nat → List Int} {l : List Int} (h : ∀ j, j < l.length → vle (X j) = l.getD j 0) : idN X l.length l.length = l := by
  unfold idN
  rw [Nat.sub_self, List.replicate_zero, List.append_nil]
  refine List.ext_getElem (by simp) fun j h1 h2 => ?_
  rw [List.getElem_map, List.getElem_range, h j h2, List.getD_eq_getElem?_getD, List.getElem?_eq_getElem h2]; rfl
attribute [irreducible] idN idP
end Go.Sk
namespace Go.Sk
theorem vle_inj : ∀ {a b : List Int}, B8 a → B8 b → a.length = b.length → vle a = vle b → a = b
  | [], [], _, _, _, _ => rfl
  | x :: a, y :: b, ha, hb, hl, h => by
    rw [vle_cons, vle_cons] at h
    have hx := ha x List.mem_cons_self
    have hy := hb y List.mem_cons_self
    have hr := vle_inj (a := a) (b := b) (fun z hz => ha z (List.mem_cons_of_mem _ hz)) (fun z hz => hb z (List.mem_cons_of_mem _ hz)) (by simpa using hl) (by omega)
    rw [hr, show x = y by omega]
theorem putV_pre {a b : Nat} {r r' : List Int} (ha : a ≤ 1099511627775) (hb : b ≤ 1099511627775) (h : putV a ++ r = putV b ++ r') : a = b ∧ r = r' := by
  have h1 := putN_spec 6 a r (by omega)
  have h2 := putN_spec 6 b r' (by omega)
  rw [putV_eq, putV_eq] at h
  rw [h] at h1
  obtain ⟨h3, h4⟩ := List.append_inj h (by omega)
  have e1 := h1.2.1
  have e2 := h2.2.1
  rw [h3] at e1
  exact ⟨by omega, h4⟩
theorem idP_full (Y : Nat → List Int) : idP Y 16 = (List.range 16).map (fun j => vle (Y j)) := by unfold idP idN; simp
theorem idN_full (Y : Nat → List Int) (w : Nat) : idN Y w w = (List.range w).map (fun j => vle (Y j)) := by unfold idN; simp
theorem enc_of {s x0 c1 c2 c3 : List Int} {m : Nat} {C : Nat → List Int} {E : Nat → Int} {Y : Nat → List Int} {e1 e2 e3 v n kk : Int} (bs : B8 s) (hm : s.length = m + 4 + 4)
    (hs : vle (s.drop (m + 4)) = ((crcS (s.take (m + 4)) : Nat) : Int)) (hmg : s.take 4 = [84, 65, 80, 69]) (h0 : FixS ((s.drop 4).take m) 0 1 (E 0) (C 0) x0)
    (hF : ∀ i, i < 16 → FixS (C i) (E i) 1 (E (i + 1)) (C (i + 1)) (Y i)) (hv : NumS (C 16) (E 16) 63 e1 c1 v) (hn : NumS c1 e1 1099511627775 e2 c2 n) (hk : NumS c2 e2 262144 e3 c3 kk) (he : e3 = 0) (hj : kk = (c3.length : Int)) :
    s = encL (vle x0) (idP Y 16) v n c3 ∧ B8 (idP Y 16) ∧ B8 c3 := by
  have bc : B8 ((s.drop 4).take m) := fun x hx => bs x (List.mem_of_mem_drop (List.mem_of_mem_take hx))
  have hch := chain_ok h0 hF bc
  have b16 := (hch 16 (Nat.le_refl _)).1
  have b1 := hv.b8 b16
  have b2 := hn.b8 b1
  have b3 := hk.b8 b2
  obtain ⟨q2, p2, _, _⟩ := hk.inv b2 he
  obtain ⟨q1, p1, _, _⟩ := hn.inv b1 q2
  obtain ⟨q0, p0, _, _⟩ := hv.inv b16 q1
  obtain ⟨q, p⟩ := chain_inv hF 16 (Nat.le_refl _) q0
  obtain ⟨_, pc⟩ := h0.inv q
  have hcc : (s.drop 4).take m = vle x0 :: (idP Y 16 ++ (putV v.toNat ++ (putV n.toNat ++ (putV c3.length ++ c3)))) := by
    rw [pc, p, ← idP_full, p0, p1, p2, hj, Int.toNat_natCast]
  have ht : s.take (m + 4) = encB (vle x0) (idP Y 16) v n c3 := by
    rw [show m + 4 = 4 + m by omega, List.take_add, hmg, hcc]
    unfold encB hdrL
    simp
  have bt : B8 (s.take (m + 4)) := fun x hx => bs x (List.mem_of_mem_take hx)
  have hcr := crcS_lt bt
  refine ⟨?_, B8_idP hF hch, b3⟩
  unfold encL
  rw [← ht]
  conv => lhs; rw [← List.take_append_drop (m + 4) s]
  congr 1
  refine vle_inj (fun x hx => bs x (List.mem_of_mem_drop hx)) (B8_fixL _ _) (by rw [List.length_drop, length_fixL]; omega) ?_
  rw [hs, vle_fixL, Nat.mod_eq_of_lt (by omega)]
section
variable {k v n : Int} {id b : List Int}
theorem encB_split (hid : id.length = 16) : encB k id v n b = [84, 65, 80, 69] ++ (k :: (id ++ (putV v.toNat ++ (putV n.toNat ++ (putV b.length ++ b))))) := by
  unfold encB hdrL; simp
theorem enc_data (hid : id.length = 16) (bid : B8 id) (bb : B8 b) (hR : RightR k v n b.length) :
    ∃ (m : Nat) (x0 : List Int) (C : Nat → List Int) (E : Nat → Int) (Y : Nat → List Int) (c1 c2 : List Int), (encL k id v n b).length = m + 4 + 4 ∧ vle ((encL k id v n b).drop (m + 4)) = ((crcS ((encL k id v n b).take (m + 4)) : Nat) : Int) ∧
      (encL k id v n b).take 4 = [84, 65, 80, 69] ∧ FixS (((encL k id v n b).drop 4).take m) 0 1 (E 0) (C 0) x0 ∧ (∀ i, i < 16 → FixS (C i) (E i) 1 (E (i + 1)) (C (i + 1)) (Y i)) ∧ NumS (C 16) (E 16) 63 0 c1 v ∧
      NumS c1 0 1099511627775 0 c2 n ∧ NumS c2 0 262144 0 b (b.length : Int) ∧ vle x0 = k ∧ idP Y 16 = id := by
  have hR0 := hR
  obtain ⟨g1, g2, g3, g4, g5, g6, g7⟩ := hR0
  have hlb := length_encL (k := k) (id := id) (v := v) (n := n) (b := b)
  have hsp := encB_split (k := k) (v := v) (n := n) (b := b) hid
  have hle : (encB k id v n b).length = 4 + (1 + (id ++ (putV v.toNat ++ (putV n.toNat ++ (putV b.length ++ b)))).length) := by rw [hsp]; simp; omega
  have be := B8_encB hR bid bb
  have hcr := crcS_lt be
  obtain ⟨C, E, Y, h1, h2, h3, h4, h5, h6⟩ := chain_put id (putV v.toNat ++ (putV n.toNat ++ (putV b.length ++ b)))
  rw [hid] at h3 h4 h5 h6
  refine ⟨1 + (id ++ (putV v.toNat ++ (putV n.toNat ++ (putV b.length ++ b)))).length, [k], C, E, Y, putV n.toNat ++ (putV b.length ++ b), putV b.length ++ b, by omega, ?_, ?_, ?_, h6, ?_, ?_, ?_, ?_, ?_⟩
  · have hm4 : 1 + (id ++ (putV v.toNat ++ (putV n.toNat ++ (putV b.length ++ b)))).length + 4 = (encB k id v n b).length := by omega
    rw [hm4]
    unfold encL
    rw [List.drop_left, List.take_left, vle_fixL, Nat.mod_eq_of_lt (by omega)]
  · unfold encL; rw [hsp]; rfl
  · have e1 : ((encL k id v n b).drop 4).take (1 + (id ++ (putV v.toNat ++ (putV n.toNat ++ (putV b.length ++ b)))).length) = k :: (id ++ (putV v.toNat ++ (putV n.toNat ++ (putV b.length ++ b)))) := by
      unfold encL; rw [hsp]
      show ((k :: (id ++ _)) ++ _).take _ = _
      exact List.take_left' (by simp; omega)
    rw [e1, h2, h1]
    have h := FixS.ok (b := k :: (id ++ (putV v.toNat ++ (putV n.toNat ++ (putV b.length ++ b))))) (e := 0) (width := 1) 1 rfl rfl (by decide) (by simp)
    exact h
  · rw [h3, h4]
    have h := numR_put (n := v.toNat) (most := 63) (putV n.toNat ++ (putV b.length ++ b)) (by omega) (by omega)
    rw [show ((v.toNat : Nat) : Int) = v by omega] at h
    exact .go rfl h
  · have h := numR_put (n := n.toNat) (most := 1099511627775) (putV b.length ++ b) (by omega) (by omega)
    rw [show ((n.toNat : Nat) : Int) = n by omega] at h
    exact .go rfl h
  · exact .go rfl (numR_put (n := b.length) (most := 262144) b (by omega) (by omega))
  · simp [vle_cons, vle_nil]
  · rw [idP_full]
    have := idN_of (X := Y) (l := id) (by rw [hid]; exact h5)
    rw [hid, idN_full] at this
    exact this
end
theorem encL_inj {k v n k' v' n' : Int} {id b id' b' : List Int} (hid : id.length = 16) (hid' : id'.length = 16) (hR : RightR k v n b.length) (hR' : RightR k' v' n' b'.length) (h : encL k id v n b = encL k' id' v' n' b') :
    k = k' ∧ id = id' ∧ v = v' ∧ n = n' ∧ b = b' := by
  obtain ⟨g1, g2, g3, g4, g5, g6, g7⟩ := hR
  obtain ⟨f1, f2, f3, f4, f5, f6, f7⟩ := hR'
  have h1 : encB k id v n b = encB k' id' v' n' b' := by
    unfold encL at h
    have := congrArg List.length h
    simp only [List.length_append, length_fixL] at this
    exact (List.append_inj h (by omega)).1
  rw [encB_split hid, encB_split hid'] at h1
  have h2 := (List.append_inj h1 rfl).2
  obtain ⟨rfl, h3⟩ := List.cons.inj h2
  obtain ⟨rfl, h4⟩ := List.append_inj h3 (by omega)
  obtain ⟨h5, h6⟩ := putV_pre (by omega) (by omega) h4
  obtain ⟨h7, h8⟩ := putV_pre (by omega) (by omega) h6
  obtain ⟨h9, h10⟩ := putV_pre (by omega) (by omega) h8
  exact ⟨rfl, rfl, by omega, by omega, h10⟩
theorem enc_turned {k v n : Int} {id b : List Int} {i : Nat} {y : Int} (bid : B8 id) (bb : B8 b) (hR : RightR k v n b.length) (hi : i < (encL k id v n b).length) (hy : 0 ≤ y ∧ y < 256) (hne : y ≠ (encL k id v n b).getD i 0) :
    vle (((encL k id v n b).set i y).drop (encB k id v n b).length) ≠ ((crcS (((encL k id v n b).set i y).take (encB k id v n b).length) : Nat) : Int) := by
  have be := B8_encB hR bid bb
  have hcr := crcS_lt be
  have hlb := length_encL (k := k) (id := id) (v := v) (n := n) (b := b)
  have hvf : vle (fixL (crcS (encB k id v n b)) 4) = ((crcS (encB k id v n b) : Nat) : Int) := by rw [vle_fixL, Nat.mod_eq_of_lt (by omega)]
  have hg : (encL k id v n b).getD i 0 = if i < (encB k id v n b).length then (encB k id v n b).getD i 0 else (fixL (crcS (encB k id v n b)) 4).getD (i - (encB k id v n b).length) 0 := by
    unfold encL
    simp only [List.getD_eq_getElem?_getD, List.getElem?_append]
    split <;> rfl
  rcases Nat.lt_or_ge i (encB k id v n b).length with h | h
  · rw [if_pos h] at hg
    unfold encL
    rw [List.set_append_left _ _ h, List.drop_left' (by simp), List.take_left' (by simp), hvf]
    intro e
    exact crcS_set be h hy (by rw [← hg]; exact hne) (by omega)
  · rw [if_neg (by omega)] at hg
    unfold encL
    rw [List.set_append_right _ _ h, List.drop_left, List.take_left, ← hvf]
    intro e
    have bf := B8_fixL (crcS (encB k id v n b)) 4
    have hf := vle_inj (B8_set bf hy) bf (by simp) e
    have hj : i - (encB k id v n b).length < (fixL (crcS (encB k id v n b)) 4).length := by rw [length_fixL]; omega
    apply hne
    rw [hg]
    conv => rhs; rw [← hf]
    simp [List.getD_eq_getElem?_getD, hj]
theorem B8_planL {c w t : Int} {dg : List Int} (hM : MayP c w t) (bd : B8 dg) : B8 (planL c w t dg) := by
  obtain ⟨g1, g2, g3, g4, g5, g6⟩ := hM
  unfold planL
  exact B8_append (B8_append (B8_append (B8_putV (by omega)) (B8_putV (by omega))) (B8_putV (by omega))) bd
theorem length_planL (c w t : Int) (dg : List Int) : (planL c w t dg).length = (putV c.toNat).length + (putV w.toNat).length + (putV t.toNat).length + dg.length := by unfold planL; simp; omega
theorem plan_data {c w t : Int} {dg : List Int} (hd : dg.length = 32) (hM : MayP c w t) : ∃ (C : Nat → List Int) (E : Nat → Int) (Y : Nat → List Int) (c1 c2 : List Int), NumS (planL c w t dg) 0 65536 0 c1 c ∧ NumS c1 0 32768 0 c2 w ∧
    NumS c2 0 4194304 (E 0) (C 0) t ∧ (∀ i, i < 32 → FixS (C i) (E i) 1 (E (i + 1)) (C (i + 1)) (Y i)) ∧ E 32 = 0 ∧ (C 32).length = 0 ∧ idN Y 32 32 = dg := by
  obtain ⟨g1, g2, g3, g4, g5, g6⟩ := hM
  obtain ⟨C, E, Y, h1, h2, h3, h4, h5, h6⟩ := chain_put dg []
  rw [hd] at h3 h4 h5 h6
  have e1 : planL c w t dg = putV c.toNat ++ (putV w.toNat ++ (putV t.toNat ++ dg)) := by unfold planL; simp
  refine ⟨C, E, Y, putV w.toNat ++ (putV t.toNat ++ dg), putV t.toNat ++ dg, ?_, ?_, ?_, h6, h4, by rw [h3]; rfl, ?_⟩
  · have h := numR_put (n := c.toNat) (most := 65536) (putV w.toNat ++ (putV t.toNat ++ dg)) (by omega) (by omega)
    rw [show ((c.toNat : Nat) : Int) = c by omega, ← e1] at h
    exact .go rfl h
  · have h := numR_put (n := w.toNat) (most := 32768) (putV t.toNat ++ dg) (by omega) (by omega)
    rw [show ((w.toNat : Nat) : Int) = w by omega] at h
    exact .go rfl h
  · have h := numR_put (n := t.toNat) (most := 4194304) dg (by omega) (by omega)
    rw [show ((t.toNat : Nat) : Int) = t by omega] at h
    rw [h1, h2, List.append_nil]
    exact .go rfl h
  · have := idN_of (X := Y) (l := dg) (by rw [hd]; exact h5)
    rw [hd] at this
    exact this
theorem plan_of {s c1 c2 : List Int} {C : Nat → List Int} {E : Nat → Int} {Y : Nat → List Int} {e1 e2 c w t : Int} (bs : B8 s) (hc : NumS s 0 65536 e1 c1 c) (hw : NumS c1 e1 32768 e2 c2 w) (ht : NumS c2 e2 4194304 (E 0) (C 0) t)
    (hF : ∀ i, i < 32 → FixS (C i) (E i) 1 (E (i + 1)) (C (i + 1)) (Y i)) (he : E 32 = 0) (hm : (C 32).length = 0) : s = planL c w t (idN Y 32 32) := by
  have b1 := hc.b8 bs
  have b2 := hw.b8 b1
  obtain ⟨q, p⟩ := chain_inv hF 32 (Nat.le_refl _) he
  obtain ⟨q2, p2, _, _⟩ := ht.inv b2 q
  obtain ⟨q1, p1, _, _⟩ := hw.inv b1 q2
  obtain ⟨_, p0, _, _⟩ := hc.inv bs q1
  rw [p0, p1, p2, p, List.eq_nil_of_length_eq_zero hm, ← idN_full]
  unfold planL
  simp
theorem segs_law {c w t : Int} (hM : MayP c w t) : 0 ≤ segsN c t ∧ segsN c t ≤ 4194304 ∧ t ≤ segsN c t * c ∧ segsN c t * c ≤ t + c - 1 ∧ ((segsN c t = 0 ∧ t = 0) ∨ (1 ≤ segsN c t ∧ (segsN c t - 1) * c < t)) := by
  obtain ⟨g1, g2, g3, g4, g5, g6⟩ := hM
  have h1 := Int.emod_add_mul_ediv (t + c - 1) c
  have h2 := Int.emod_nonneg (t + c - 1) (show c ≠ 0 by omega)
  have h3 := Int.emod_lt_of_pos (t + c - 1) (show 0 < c by omega)
  have h4 : 0 ≤ (t + c - 1) / c := Int.ediv_nonneg (by omega) (by omega)
  unfold segsN
  generalize (t + c - 1) / c = q at *
  rw [Int.mul_comm] at h1
  have h5 : (q - 1) * c = q * c - c := by rw [Int.sub_mul, Int.one_mul]
  have h6 : q ≤ q * c := by
    have := Int.mul_le_mul_of_nonneg_left g1 h4
    rwa [Int.mul_one] at this
  refine ⟨h4, ?_, by omega, by omega, ?_⟩
  · by_cases hq : q ≤ 4194304
    · exact hq
    · have : (4194305 : Int) * c ≤ q * c := Int.mul_le_mul_of_nonneg_right (by omega) (by omega)
      have h7 : (4194305 : Int) * c = 4194304 * c + c := by omega
      have : (4194304 : Int) * 1 ≤ 4194304 * c := Int.mul_le_mul_of_nonneg_left g1 (by decide)
      omega
  · by_cases hq : 1 ≤ q
    · exact .inr ⟨hq, by omega⟩
    · have : q = 0 := by omega
      subst this
      exact .inl ⟨rfl, by omega⟩
end Go.Sk
namespace Go.Sk
theorem arg_rec {v : AV} (h : (Sh.st [.int .i64, .nums 16 .u8, .int .i64, .int .i64, .sl 1 (.int .u8)]).arg v) :
    ∃ (k : Int) (id : List Int) (vo n : Int) (b : List Int), v = .ag (recX k id vo n (bodyV b)) ∧ id.length = 16 ∧ B8 id ∧ B8 b := by
  obtain ⟨xs, rfl, a1, b1, rfl, ⟨k, rfl, _⟩, a2, b2, rfl, ⟨id, rfl, hid, wid⟩, a3, b3, rfl, ⟨vo, rfl, _⟩, a4, b4, rfl, ⟨n, rfl, _⟩, a5, b5, rfl, h5, rfl⟩ := h
  obtain ⟨m, l, rfl, h6, h7, h8⟩ := h5
  obtain ⟨ws, g1, g2, g3⟩ := chunks_int h8
  refine ⟨k, id, vo, n, ws, ?_, hid, b8_wf wid, b8_wf g3⟩
  unfold recX bodyV
  rw [g1, g2, h6]
  simp
theorem wf_i64L {x : Int} (h : -9223372036854775808 ≤ x ∧ x ≤ 9223372036854775807) : (Lit.int .i64 x).wf = true := by
  simp [Lit.wf, IntKind.min, IntKind.max, IntKind.signed, IntKind.bits]; omega
theorem arg_plan {v : AV} (h : (Sh.st [.int .i64, .int .i64, .int .i64, .nums 32 .u8]).arg v) :
    ∃ (c w t : Int) (dg : List Int), v = .ag (planX c w t dg) ∧ dg.length = 32 ∧ B8 dg := by
  obtain ⟨xs, rfl, a1, b1, rfl, ⟨c, rfl, _⟩, a2, b2, rfl, ⟨w, rfl, _⟩, a3, b3, rfl, ⟨t, rfl, _⟩, a4, b4, rfl, ⟨dg, rfl, hd, wd⟩, rfl⟩ := h
  refine ⟨c, w, t, dg, ?_, hd, b8_wf wd⟩
  unfold planX
  simp
theorem plan_has {c w t : Int} {dg : List Int} (hd : dg.length = 32) (bd : B8 dg) (h : 0 ≤ c ∧ c ≤ 65536 ∧ 0 ≤ w ∧ w ≤ 65536 ∧ 0 ≤ t ∧ t ≤ 4194304) :
    (Sh.st [.int .i64, .int .i64, .int .i64, .nums 32 .u8]).has (planX c w t dg) := by
  unfold planX
  exact ⟨[.i .i64 c], _, rfl, ⟨c, rfl, wf_i64L (by omega)⟩, [.i .i64 w], _, rfl, ⟨w, rfl, wf_i64L (by omega)⟩, [.i .i64 t], _, rfl, ⟨t, rfl, wf_i64L (by omega)⟩, I .u8 dg, [], by simp, ⟨dg, rfl, hd, wf_u8 bd⟩, rfl⟩
theorem plan_hasM {c w t : Int} {dg : List Int} (hd : dg.length = 32) (bd : B8 dg) (h : MayP c w t) : (Sh.st [.int .i64, .int .i64, .int .i64, .nums 32 .u8]).has (planX c w t dg) := by
  obtain ⟨g1, g2, g3, g4, g5, g6⟩ := h
  exact plan_has hd bd (by omega)
theorem length_encL' {k v n : Int} {id b : List Int} (hid : id.length = 16) (hR : RightR k v n b.length) : (encL k id v n b).length ≤ 1099511627 := by
  have p1 := length_putV7 v.toNat
  have p2 := length_putV7 n.toNat
  have p3 := length_putV7 b.length
  rw [length_encL, length_encB, length_hdrL]
  have := hR.2.2.2.2.2.2
  omega
theorem right_dec (k v n : Int) (m : Nat) : RightR k v n m ∨ ¬ RightR k v n m := Classical.em _
theorem enc_ne {k v n k2 v2 n2 : Int} {id b id2 b2 : List Int} (hid : id.length = 16) (hid2 : id2.length = 16) (bid : B8 id) (bb : B8 b) (bid2 : B8 id2) (bb2 : B8 b2) (hR : RightR k v n b.length) (hR2 : RightR k2 v2 n2 b2.length) (h : ¬ (k = k2 ∧ id = id2 ∧ v = v2 ∧ n = n2 ∧ b = b2)) :
    bs (encL k id v n b) ≠ bs (encL k2 id2 v2 n2 b2) := fun e =>
  h (encL_inj hid hid2 hR hR2 (bs_inj (B8_encL hR bid bb) (B8_encL hR2 bid2 bb2) e))
end Go.Sk
