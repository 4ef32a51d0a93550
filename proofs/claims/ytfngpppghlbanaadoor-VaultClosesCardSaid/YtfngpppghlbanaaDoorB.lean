/- Own work: a calculus for walks through the program, and plain laws: Fw6, Fw7, Fw8, Fw9 -/
import Derived.Test.YtfngpppghlbanaaDoorA
import Derived.Laws.Entries
import Derived.Laws.Rows
import Derived.Laws.Cells
import Derived.Laws.BytesString
import Derived.Laws.AppendOwn
namespace Go.Sk
open Go.RowKit
structure Ctx.Ok (C : Ctx) : Prop where
  fn : ∀ f, C.F.fn f
  depth : C.F.depth = none
  mixed : C.P.follows .mixedOrders = true
inductive OpV (E : List (Nat × AV)) : Operand → AV → List (Nat × AV) → Prop
  | tmp {t : Nat} {av : AV} (h : lk E t = some av) (ht : Nat.blt t 1000000 = true := by rfl) : OpV E (.tmp t) av [(t, av)]
  | glob {g : Nat} {av : AV} (h : lk E (1000000 + g) = some av) : OpV E (.global g) av [(1000000 + g, av)]
  | cint {k : IntKind} {n : Int} : OpV E (.const (.int k n)) (.i k n) []
  | cbool {x : Bool} : OpV E (.const (.bool x)) (.b x) []
  | cstr {x : ByteArray} : OpV E (.const (.string x)) (.s x) []
  | cnils : OpV E (.const (.slice none 0 0)) .nils []
  | cnilp : OpV E (.const (.pointer none)) .nilp []
  | cnilf : OpV E (.const .nilFunc) .nilf []
  | func {f : Nat} (hf : Nat.blt f 1000000000 = true := by rfl) : OpV E (.func f) (.f f []) []
section
theorem blt_lt {a b : Nat} (h : Nat.blt a b = true) : a < b := by rw [Nat.blt_eq] at h; exact h
variable {E : List (Nat × AV)} {x : Operand} {av : AV} {pr : List (Nat × AV)}
theorem OpV.pre (h : OpV E x av pr) : ∀ t v, (t, v) ∈ pr → lk E t = some v := by
  intro t v hm
  cases h with
  | tmp h ht => simp at hm; rw [hm.1, hm.2]; exact h
  | glob h => simp at hm; rw [hm.1, hm.2]; exact h
  | _ => simp at hm
theorem OpV.sim (h : OpV E x av pr) {ρ : Nat → Value} {w : World} {O : Nat → Prop} {a : Act} (hp : ∀ t v, (t, v) ∈ pr → ∃ cv, slot a t = some cv ∧ v.sim ρ w O cv) : av.sim ρ w O (a.eval x) := by
  cases h with
  | tmp h ht =>
    obtain ⟨cv, h1, h2⟩ := hp _ _ (List.mem_singleton.2 rfl)
    rw [slot_eval h1 (blt_lt ht)]; exact h2
  | @glob g _ h =>
    obtain ⟨cv, h1, h2⟩ := hp _ _ (List.mem_singleton.2 rfl)
    unfold slot at h1
    rw [if_neg (by omega)] at h1
    simp at h1
    subst h1
    simpa [Act.eval] using h2
  | func hf => simp only [Act.eval, AV.sim, tgt_func hf]; exact ⟨[], rfl, by simp [AV.simL]⟩
  | _ => simp [Act.eval, AV.sim]
theorem OpV.bd (h : OpV E x av pr) {S : Nat → Prop} (hp : ∀ t v, (t, v) ∈ pr → v.inS S) : av.inS S := by
  cases h with
  | tmp h ht => exact hp _ _ (List.mem_singleton.2 rfl)
  | glob h => exact hp _ _ (List.mem_singleton.2 rfl)
  | func => simp [AV.inS, AV.inSL]
  | _ => simp [AV.inS]
end
theorem Tri.of_value {P : Program} {F : Fence} {n : Nat} {o : Oper} {pre : List (Nat × AV)} {ro rd wr : List (Nat × Blk)} {v : AV} (hF : ∀ f, F.fn f) (hnd : ∀ c, o.op ≠ .defer c)
    (h : ∀ (X : Nat → Prop) (ρ : Nat → Value) (w : World) (a : Act),
      (∀ t av, (t, av) ∈ pre → ∃ cv, slot a t = some cv ∧ av.sim ρ w (fun b => X b ∨ owned ρ (lk (ro ++ rd)) b) cv) →
      HOK X ρ w (lk (ro ++ rd)) → (∀ b, X b → b < w.heap.size) → (∀ k, lk wr k ≠ none → lk ro k = none) →
      ∀ S : Nat → Prop, (∀ t av, (t, av) ∈ pre → av.inS S) → (∀ k b, (k, b) ∈ ro → S k ∧ b.inS S) → (∀ k b, (k, b) ∈ rd → S k ∧ b.inS S) → (∀ k, lk wr k ≠ none → lk rd k = none → ¬ S k) →
      ∃ cv w' ρ', ((execOp a.eval o).run P w = .ok (.value cv) w' ∨ ((execOp a.eval o).run P w = .ok .skip w' ∧ cv = undef)) ∧ (∀ k, lk wr k = none ∨ lk rd k ≠ none → ρ' k = ρ k) ∧ Fr w (owned ρ (lk rd)) w' ∧
        HOK X ρ' w' (lk (ro ++ wr)) ∧ (∀ b, owned ρ' (lk wr) b → owned ρ (lk rd) b ∨ w.heap.size ≤ b) ∧
        v.sim ρ' w' (fun b => X b ∨ owned ρ' (lk (ro ++ wr)) b) cv)
    (bd : ∀ S : Nat → Prop, (∀ t av, (t, av) ∈ pre → av.inS S) → (∀ k b, (k, b) ∈ ro → S k ∧ b.inS S) → (∀ k b, (k, b) ∈ rd → S k ∧ b.inS S) →
      (∀ k, lk wr k ≠ none → lk rd k = none → S k) → v.inS S ∧ ∀ k b, (k, b) ∈ wr → S k ∧ b.inS S) : Tri P F n o pre ro rd wr v := by
  refine ⟨fun X ρ w a hp hk hX hwr S s1 s2 s3 s4 => ?_, bd⟩
  obtain ⟨cv, w', ρ', h1, h2, h3, h4, h5, h6⟩ := h X ρ w a hp hk hX hwr S s1 s2 s3 s4
  refine ⟨fun f _ => hF f, ?_⟩
  rw [Oper.semAt_eq _ _ _ hnd]
  rcases h1 with h1 | ⟨h1, rfl⟩
  · rw [h1]; exact ⟨ρ', cv, rfl, h2, h3, h4, h5, h6⟩
  · rw [h1]; exact ⟨ρ', undef, rfl, h2, h3, h4, h5, h6⟩
theorem setE_cons (E : List (Nat × AV)) (d : Nat) (v : AV) (t : Nat) : lk ((d, v) :: E) t = setE (lk E) (some d) v t := by
  rw [lk_cons]; simp only [setE, Option.some.injEq]
theorem oc_pure {C : Ctx} {N : Nat} {E : List (Nat × AV)} {H : List (Nat × Blk)} {o : Oper} {d : Nat} {v : AV} {pre : List (Nat × AV)} {ro : List (Nat × Blk)} (hC : C.Ok) (ho : o.dst = some d) (hd : Nat.blt d C.T = true) (hd6 : Nat.blt d 1000000 = true)
    (hnd : ∀ c, o.op ≠ .defer c) (hpre : ∀ t av, (t, av) ∈ pre → lk E t = some av) (hro : ∀ k b, (k, b) ∈ ro → lk H k = some b)
    (h : ∀ (ρ : Nat → Value) (w : World) (O : Nat → Prop) (a : Act), (∀ t av, (t, av) ∈ pre → ∃ cv, slot a t = some cv ∧ av.sim ρ w O cv) → (∀ k b, lk ro k = some b → b.ok ρ w O k) →
      ∃ cv, (execOp a.eval o).run C.P w = .ok (.value cv) w ∧ v.sim ρ w O cv)
    (bd : ∀ S : Nat → Prop, (∀ t av, (t, av) ∈ pre → av.inS S) → (∀ k b, (k, b) ∈ ro → S k ∧ b.inS S) → v.inS S) :
    OpC C ⟨N, E, H⟩ o ⟨o, false, pre, ro, [], [], v⟩ ⟨N, (d, v) :: E, H⟩ := by
  have htri : Tri C.P C.F C.n o pre ro [] [] v := by
    refine Tri.of_value hC.fn hnd (fun X ρ w a hp hk hX _ _ _ _ _ _ => ?_) (fun S h1 h2 _ _ => ⟨bd S h1 h2, by simp⟩)
    rw [List.append_nil] at hp hk
    obtain ⟨cv, h1, h2⟩ := h ρ w _ a hp hk.ok
    refine ⟨cv, w, ρ, .inl h1, fun _ _ => rfl, Fr.refl _ _, by rw [List.append_nil]; exact hk, fun b hb => .inl hb, by rw [List.append_nil]; exact h2⟩
  exact { op := rfl, skip := rfl, tri := htri, pre := hpre, ro := hro, rd := by simp, dj := by simp [lk], new := by simp [lk], N := Nat.le_refl _,
          dst := fun t ht => by rw [ho] at ht; cases ht; exact ⟨blt_lt hd, blt_lt hd6⟩,
          E1 := fun t => by rw [ho]; exact setE_cons _ _ _ _, H1 := fun k => by simp [upd, lk] }
def binI (op : BinOp) (k : IntKind) (a b : Int) : Int :=
  match op with
  | .add => k.wrap (a + b)
  | .sub => k.wrap (a - b)
  | .mul => k.wrap (a * b)
  | .quo => k.wrap (a.tdiv b)
  | .rem => a.tmod b
  | .and => k.wrap (BitVec.ofInt k.bits a &&& BitVec.ofInt k.bits b).toNat
  | .or => k.wrap (BitVec.ofInt k.bits a ||| BitVec.ofInt k.bits b).toNat
  | .xor => k.wrap (BitVec.ofInt k.bits a ^^^ BitVec.ofInt k.bits b).toNat
  | .andNot => k.wrap (BitVec.ofInt k.bits a &&& ~~~(BitVec.ofInt k.bits b)).toNat
  | .shl => k.wrap (a * 2 ^ (min b.toNat k.bits))
  | .shr => a.fdiv (2 ^ (min b.toNat k.bits))
  | _ => 0
def isArith : BinOp → Bool
  | .add | .sub | .mul | .and | .or | .xor | .andNot => true
  | _ => false
def cmpI (op : BinOp) (a b : Int) : Bool :=
  match op with
  | .eql => decide (a = b)
  | .neq => decide (a ≠ b)
  | .lss => decide (a < b)
  | .leq => decide (a ≤ b)
  | .gtr => decide (b < a)
  | .geq => decide (b ≤ a)
  | _ => false
def isCmp : BinOp → Bool
  | .eql | .neq | .lss | .leq | .gtr | .geq => true
  | _ => false
theorem run_eqGuard_int {P : Program} (op : BinOp) (t : TypeId) (x y : Operand) (k k' : IntKind) (a b : Int) (w : World) : (eqGuard op t x y (.int k a) (.int k' b)).run P w = .ok () w := by
  unfold eqGuard
  cases op <;> rfl
section
variable {C : Ctx} {N : Nat} {E : List (Nat × AV)} {H : List (Nat × Blk)} {d : Nat} {ty : TypeId} {ps : String} {af : Array Edge} {g : Option (Nat × Bool)} (hC : C.Ok)
theorem inS_i {S : Nat → Prop} {k : IntKind} {n : Int} : (AV.i k n).inS S := by simp [AV.inS]
theorem inS_b {S : Nat → Prop} {x : Bool} : (AV.b x).inS S := by simp [AV.inS]
theorem inS_s {S : Nat → Prop} {x : ByteArray} : (AV.s x).inS S := by simp [AV.inS]
include hC
theorem oc_move {x : Operand} {v : AV} {pre : List (Nat × AV)} (hx : OpV E x v pre) (hd : Nat.blt d C.T = true) (hd6 : Nat.blt d 1000000 = true) :
    OpC C ⟨N, E, H⟩ ⟨some d, .move x, ty, ps, af, g⟩ ⟨⟨some d, .move x, ty, ps, af, g⟩, false, pre, [], [], [], v⟩ ⟨N, (d, v) :: E, H⟩ :=
  oc_pure hC rfl hd hd6 (fun _ h => by cases h) hx.pre (by simp) (fun ρ w O a hp _ => ⟨a.eval x, rfl, hx.sim hp⟩) (fun S h1 _ => hx.bd h1)
theorem oc_assign {x : Operand} {v : AV} {pre : List (Nat × AV)} (hx : OpV E x v pre) (hd : Nat.blt d C.T = true) (hd6 : Nat.blt d 1000000 = true) :
    OpC C ⟨N, E, H⟩ ⟨some d, .assign x, ty, ps, af, g⟩ ⟨⟨some d, .assign x, ty, ps, af, g⟩, false, pre, [], [], [], v⟩ ⟨N, (d, v) :: E, H⟩ :=
  oc_pure hC rfl hd hd6 (fun _ h => by cases h) hx.pre (by simp) (fun ρ w O a hp _ => ⟨a.eval x, rfl, hx.sim hp⟩) (fun S h1 _ => hx.bd h1)
theorem oc_bin {op : BinOp} {x y : Operand} {k : IntKind} {a b r : Int} {p q : List (Nat × AV)} {xt yt : TypeId} (hop : isArith op = true) (hx : OpV E x (.i k a) p) (hy : OpV E y (.i k b) q) (hr : binI op k a b = r)
    (hd : Nat.blt d C.T = true) (hd6 : Nat.blt d 1000000 = true) :
    OpC C ⟨N, E, H⟩ ⟨some d, .binOp op xt x y yt, ty, ps, af, g⟩ ⟨⟨some d, .binOp op xt x y yt, ty, ps, af, g⟩, false, p ++ q, [], [], [], .i k r⟩ ⟨N, (d, .i k r) :: E, H⟩ := by
  refine oc_pure hC rfl hd hd6 (fun _ h => by cases h) (fun t av hm => ?_) (by simp) (fun ρ w O A hp _ => ⟨.int k r, ?_, by simp [AV.sim]⟩) (fun S _ _ => inS_i)
  · rcases List.mem_append.1 hm with h | h
    · exact hx.pre t av h
    · exact hy.pre t av h
  · have h1 := hx.sim (fun t v hm => hp t v (List.mem_append_left _ hm))
    have h2 := hy.sim (fun t v hm => hp t v (List.mem_append_right _ hm))
    simp only [AV.sim] at h1 h2
    subst hr
    simp only [execOp, h1, h2, Sem.run_bind, run_eqGuard_int, Result.andThen_ok]
    cases op <;> simp [isArith] at hop <;> simp [binOp, Op.intArith, Op.intBits, binI]
theorem oc_cmp {op : BinOp} {x y : Operand} {k : IntKind} {a b : Int} {p q : List (Nat × AV)} {xt yt : TypeId} (hop : isCmp op = true) (hx : OpV E x (.i k a) p) (hy : OpV E y (.i k b) q)
    (hd : Nat.blt d C.T = true) (hd6 : Nat.blt d 1000000 = true) :
    OpC C ⟨N, E, H⟩ ⟨some d, .binOp op xt x y yt, ty, ps, af, g⟩ ⟨⟨some d, .binOp op xt x y yt, ty, ps, af, g⟩, false, p ++ q, [], [], [], .b (cmpI op a b)⟩ ⟨N, (d, .b (cmpI op a b)) :: E, H⟩ := by
  refine oc_pure hC rfl hd hd6 (fun _ h => by cases h) (fun t av hm => ?_) (by simp) (fun ρ w O A hp _ => ⟨.bool (cmpI op a b), ?_, by simp [AV.sim]⟩) (fun S _ _ => inS_b)
  · rcases List.mem_append.1 hm with h | h
    · exact hx.pre t av h
    · exact hy.pre t av h
  · have h1 := hx.sim (fun t v hm => hp t v (List.mem_append_left _ hm))
    have h2 := hy.sim (fun t v hm => hp t v (List.mem_append_right _ hm))
    simp only [AV.sim] at h1 h2
    simp only [execOp, h1, h2, Sem.run_bind, run_eqGuard_int, Result.andThen_ok]
    cases op <;> simp [isCmp] at hop <;> simp [binOp, Op.intCmp, cmpI] <;> (first | rfl | (by_cases h : a = b <;> simp [h]))
theorem oc_div {op : BinOp} {x y : Operand} {k : IntKind} {a b r : Int} {p q : List (Nat × AV)} {xt yt : TypeId} (hop : op = .quo ∨ op = .rem) (hx : OpV E x (.i k a) p) (hy : OpV E y (.i k b) q) (hb : b ≠ 0) (hr : binI op k a b = r)
    (hd : Nat.blt d C.T = true) (hd6 : Nat.blt d 1000000 = true) :
    OpC C ⟨N, E, H⟩ ⟨some d, .binOp op xt x y yt, ty, ps, af, g⟩ ⟨⟨some d, .binOp op xt x y yt, ty, ps, af, g⟩, false, p ++ q, [], [], [], .i k r⟩ ⟨N, (d, .i k r) :: E, H⟩ := by
  refine oc_pure hC rfl hd hd6 (fun _ h => by cases h) (fun t av hm => ?_) (by simp) (fun ρ w O A hp _ => ⟨.int k r, ?_, by simp [AV.sim]⟩) (fun S _ _ => inS_i)
  · rcases List.mem_append.1 hm with h | h
    · exact hx.pre t av h
    · exact hy.pre t av h
  · have h1 := hx.sim (fun t v hm => hp t v (List.mem_append_left _ hm))
    have h2 := hy.sim (fun t v hm => hp t v (List.mem_append_right _ hm))
    simp only [AV.sim] at h1 h2
    subst hr
    simp only [execOp, h1, h2, Sem.run_bind, run_eqGuard_int, Result.andThen_ok]
    rcases hop with rfl | rfl <;> simp [binOp, Op.intDiv, binI, hb]
theorem oc_shift {op : BinOp} {x y : Operand} {k k' : IntKind} {a b r : Int} {p q : List (Nat × AV)} {xt yt : TypeId} (hop : op = .shl ∨ op = .shr) (hx : OpV E x (.i k a) p) (hy : OpV E y (.i k' b) q) (hb : 0 ≤ b) (hr : binI op k a b = r)
    (hd : Nat.blt d C.T = true) (hd6 : Nat.blt d 1000000 = true) :
    OpC C ⟨N, E, H⟩ ⟨some d, .binOp op xt x y yt, ty, ps, af, g⟩ ⟨⟨some d, .binOp op xt x y yt, ty, ps, af, g⟩, false, p ++ q, [], [], [], .i k r⟩ ⟨N, (d, .i k r) :: E, H⟩ := by
  refine oc_pure hC rfl hd hd6 (fun _ h => by cases h) (fun t av hm => ?_) (by simp) (fun ρ w O A hp _ => ⟨.int k r, ?_, by simp [AV.sim]⟩) (fun S _ _ => inS_i)
  · rcases List.mem_append.1 hm with h | h
    · exact hx.pre t av h
    · exact hy.pre t av h
  · have h1 := hx.sim (fun t v hm => hp t v (List.mem_append_left _ hm))
    have h2 := hy.sim (fun t v hm => hp t v (List.mem_append_right _ hm))
    simp only [AV.sim] at h1 h2
    subst hr
    have hlt : ¬ b < 0 := by omega
    simp only [execOp, h1, h2, Sem.run_bind, run_eqGuard_int, Result.andThen_ok]
    rcases hop with rfl | rfl <;> simp [binOp, Op.shift, binI, hlt]
def unI (op : UnOp) (k : IntKind) (n : Int) : Int :=
  match op with
  | .neg => k.wrap (0 - n)
  | .xor => k.wrap (BitVec.ofInt k.bits (if k.signed then -1 else k.max) ^^^ BitVec.ofInt k.bits n).toNat
  | _ => 0
theorem oc_neg {x : Operand} {k : IntKind} {n r : Int} {p : List (Nat × AV)} {op : UnOp} (hop : op = .neg ∨ op = .xor) {xt : TypeId} (hx : OpV E x (.i k n) p) (hr : unI op k n = r) (hd : Nat.blt d C.T = true) (hd6 : Nat.blt d 1000000 = true) :
    OpC C ⟨N, E, H⟩ ⟨some d, .unOp op xt x, ty, ps, af, g⟩ ⟨⟨some d, .unOp op xt x, ty, ps, af, g⟩, false, p, [], [], [], .i k r⟩ ⟨N, (d, .i k r) :: E, H⟩ := by
  refine oc_pure hC rfl hd hd6 (fun _ h => by cases h) hx.pre (by simp) (fun ρ w O A hp _ => ⟨.int k r, ?_, by simp [AV.sim]⟩) (fun S _ _ => inS_i)
  have h1 := hx.sim hp
  simp only [AV.sim] at h1
  subst hr
  rcases hop with rfl | rfl <;> simp [execOp, h1, Op.unary, Op.intArith, Op.intBits, unI]
theorem oc_not {x : Operand} {b : Bool} {p : List (Nat × AV)} {xt : TypeId} (hx : OpV E x (.b b) p) (hd : Nat.blt d C.T = true) (hd6 : Nat.blt d 1000000 = true) :
    OpC C ⟨N, E, H⟩ ⟨some d, .unOp .not xt x, ty, ps, af, g⟩ ⟨⟨some d, .unOp .not xt x, ty, ps, af, g⟩, false, p, [], [], [], .b (!b)⟩ ⟨N, (d, .b (!b)) :: E, H⟩ := by
  refine oc_pure hC rfl hd hd6 (fun _ h => by cases h) hx.pre (by simp) (fun ρ w O A hp _ => ⟨.bool (!b), ?_, by simp [AV.sim]⟩) (fun S _ _ => inS_b)
  have h1 := hx.sim hp
  simp only [AV.sim] at h1
  simp [execOp, h1, Op.unary]
theorem oc_conv {x : Operand} {k k' : IntKind} {n r : Int} {p : List (Nat × AV)} {st dt : TypeId} (hx : OpV E x (.i k n) p) (hs : (C.P.underlying st).isSome = true) (ht : C.P.underlying dt = some (.int k')) (hr : k'.wrap n = r)
    (hd : Nat.blt d C.T = true) (hd6 : Nat.blt d 1000000 = true) :
    OpC C ⟨N, E, H⟩ ⟨some d, .convert st dt x, ty, ps, af, g⟩ ⟨⟨some d, .convert st dt x, ty, ps, af, g⟩, false, p, [], [], [], .i k' r⟩ ⟨N, (d, .i k' r) :: E, H⟩ := by
  refine oc_pure hC rfl hd hd6 (fun _ h => by cases h) hx.pre (by simp) (fun ρ w O A hp _ => ⟨.int k' r, ?_, by simp [AV.sim]⟩) (fun S _ _ => inS_i)
  have h1 := hx.sim hp
  simp only [AV.sim] at h1
  subst hr
  obtain ⟨sd, hs⟩ := Option.isSome_iff_exists.1 hs
  simp only [execOp, h1, Sem.run_bind, convert, run_underlying hs, run_underlying ht, Result.andThen_ok, Conv.intToInt, Sem.run_pure]
theorem oc_pick {c x y : Operand} {b : Bool} {v u : AV} {pc px py : List (Nat × AV)} (hc : OpV E c (.b b) pc) (hx : OpV E x v px) (hy : OpV E y u py)
    (hd : Nat.blt d C.T = true) (hd6 : Nat.blt d 1000000 = true) :
    OpC C ⟨N, E, H⟩ ⟨some d, .pick c x y, ty, ps, af, g⟩ ⟨⟨some d, .pick c x y, ty, ps, af, g⟩, false, pc ++ (px ++ py), [], [], [], bif b then v else u⟩ ⟨N, (d, bif b then v else u) :: E, H⟩ := by
  refine oc_pure hC rfl hd hd6 (fun _ h => by cases h) (fun t av hm => ?_) (by simp) (fun ρ w O A hp _ => ?_) (fun S h1 _ => ?_)
  · rcases List.mem_append.1 hm with h | h
    · exact hc.pre t av h
    · rcases List.mem_append.1 h with h | h
      · exact hx.pre t av h
      · exact hy.pre t av h
  · have h1 := hc.sim (fun t v hm => hp t v (List.mem_append_left _ hm))
    have h2 := hx.sim (fun t v hm => hp t v (List.mem_append_right _ (List.mem_append_left _ hm)))
    have h3 := hy.sim (fun t v hm => hp t v (List.mem_append_right _ (List.mem_append_right _ hm)))
    simp only [AV.sim] at h1
    cases b
    · exact ⟨A.eval y, by simp [execOp, h1, asBool], h3⟩
    · exact ⟨A.eval x, by simp [execOp, h1, asBool], h2⟩
  · have h2 := hx.bd (S := S) (fun t v hm => h1 t v (List.mem_append_right _ (List.mem_append_left _ hm)))
    have h3 := hy.bd (S := S) (fun t v hm => h1 t v (List.mem_append_right _ (List.mem_append_right _ hm)))
    cases b <;> assumption
theorem oc_eqs {op : BinOp} {x y : Operand} {a b : ByteArray} {p q : List (Nat × AV)} {xt yt : TypeId} (hop : op = .eql ∨ op = .neq) (hx : OpV E x (.s a) p) (hy : OpV E y (.s b) q)
    (hd : Nat.blt d C.T = true) (hd6 : Nat.blt d 1000000 = true) :
    OpC C ⟨N, E, H⟩ ⟨some d, .binOp op xt x y yt, ty, ps, af, g⟩ ⟨⟨some d, .binOp op xt x y yt, ty, ps, af, g⟩, false, p ++ q, [], [], [], .b (if op = .eql then decide (a = b) else decide (a ≠ b))⟩
      ⟨N, (d, .b (if op = .eql then decide (a = b) else decide (a ≠ b))) :: E, H⟩ := by
  refine oc_pure hC rfl hd hd6 (fun _ h => by cases h) (fun t av hm => ?_) (by simp) (fun ρ w O A hp _ => ⟨.bool (if op = .eql then decide (a = b) else decide (a ≠ b)), ?_, by simp [AV.sim]⟩) (fun S _ _ => inS_b)
  · rcases List.mem_append.1 hm with h | h
    · exact hx.pre t av h
    · exact hy.pre t av h
  · have h1 := hx.sim (fun t v hm => hp t v (List.mem_append_left _ hm))
    have h2 := hy.sim (fun t v hm => hp t v (List.mem_append_right _ hm))
    simp only [AV.sim] at h1 h2
    have hg : (eqGuard op xt x y (.string a) (.string b)).run C.P w = .ok () w := by
      unfold eqGuard
      rcases hop with rfl | rfl <;> rfl
    have he : (a.toList == b.toList) = decide (a = b) := by
      rw [Bool.eq_iff_iff]
      simp only [beq_iff_eq, decide_eq_true_eq]
      constructor
      · intro h
        have h3 := congrArg List.toArray h
        have e1 : ∀ (c : ByteArray), c.toList.toArray = c.data := fun c => by rw [ByteArray.toList_eq c]
        rw [e1, e1] at h3
        cases a; cases b; simp at h3; rw [h3]
      · intro h; rw [h]
    simp only [execOp, h1, h2, Sem.run_bind, hg, Result.andThen_ok]
    rcases hop with rfl | rfl
    · simp [binOp, Op.stringOp, he]
    · simp [binOp, Op.stringOp, he]
end
end Go.Sk
namespace Go.Sk
open Go.RowKit
def shp (P : Program) (t : TypeId) : Option (Bool × Nat) :=
  match P.underlying t, P.info? t with
  | some d, some i => some ((match d with | .struct _ | .array _ _ => true | _ => false), i.size)
  | _, _ => none
def idx (P : Program) (t : TypeId) : Option (Option Nat × Nat) :=
  match P.underlying t with
  | some (.array n e) => (P.info? e).map fun i => (some n, i.size)
  | some (.slice e) => (P.info? e).map fun i => (none, i.size)
  | _ => none
def fld (P : Program) (t : TypeId) (f : Nat) : Option (Nat × Bool × Nat) :=
  match P.underlying t with
  | some (.struct fs) => match fs[f]? with
    | some x => (shp P x.type).map fun y => (x.offset, y.1, y.2)
    | none => none
  | _ => none
def elt (P : Program) (t : TypeId) : Option (Nat × Bool × Nat) :=
  match P.underlying t with
  | some (.array n e) => (shp P e).map fun y => (n, y.1, y.2)
  | _ => none
theorem add_zero' (a : Addr) : a.add 0 = a := by simp [Addr.add]
theorem add_none (b o j : Nat) : (⟨b, o, none⟩ : Addr).add j = ⟨b, o + j, none⟩ := by unfold Addr.add; split <;> simp_all
theorem add_block (a : Addr) (i : Nat) : (a.add i).block = a.block := by unfold Addr.add; split <;> rfl
theorem add_add (a : Addr) (i j : Nat) : (a.add i).add j = a.add (i + j) := by
  unfold Addr.add
  by_cases hi : i = 0 <;> by_cases hj : j = 0 <;> simp [hi, hj]
  omega
theorem blk_cells {ρ : Nat → Value} {w : World} {O : Nat → Prop} {k bl : Nat} {bk : Blk} (h : bk.ok ρ w O k) (hb : blkOf (ρ k) = some bl) :
    ∃ cvs : List Value, AV.simL ρ w O bk.cs cvs ∧ ∀ j cv, cvs[j]? = some cv → w.cell? ⟨bl, j, none⟩ = some cv := by
  cases bk with
  | blk t cs =>
    obtain ⟨bl', cvs, h1, h2, h3⟩ := h
    simp only [h1, blkOf, Option.some.injEq] at hb
    subst hb
    exact ⟨cvs.toList, h3, fun j cv hj => by rw [cell_of_row w bl' j cvs t (0, 0) h2]; simpa using hj⟩
  | row t sz n cs =>
    obtain ⟨_, h | ⟨bl', cap, cur, lo, hi, h1, h2, h3, h4, h5, h6, h7⟩⟩ := h
    · simp [h.1, blkOf] at hb
    · simp only [h1, blkOf, Option.some.injEq] at hb
      subst hb
      refine ⟨_, h7, fun j cv hj => ?_⟩
      rw [cell_of_row w bl' j cur t (lo, hi) h2]
      rw [List.getElem?_take] at hj
      split at hj
      · simpa using hj
      · cases hj
inductive Ptr (H : List (Nat × Blk)) : AV → List AV → List (Nat × Blk) → Prop
  | p {k off : Nat} {bk : Blk} (h : lk H k = some bk) : Ptr H (.p k off) (bk.cs.drop off) [(k, bk)]
  | rp {xs : List AV} : Ptr H (.rp xs) xs []
theorem lk_one (k : Nat) (b : Blk) : lk [(k, b)] k = some b := by rw [lk_cons, if_pos rfl]
theorem Ptr.ro {H : List (Nat × Blk)} {v : AV} {xs : List AV} {ro : List (Nat × Blk)} (h : Ptr H v xs ro) : ∀ k b, (k, b) ∈ ro → lk H k = some b := by
  intro k b hm
  cases h with
  | p h => simp at hm; rw [hm.1, hm.2]; exact h
  | rp => simp at hm
theorem Ptr.sim {H : List (Nat × Blk)} {v : AV} {xs : List AV} {ro : List (Nat × Blk)} (h : Ptr H v xs ro) {ρ : Nat → Value} {w : World} {O : Nat → Prop} {cv : Value} (hs : v.sim ρ w O cv)
    (hro : ∀ k b, lk ro k = some b → b.ok ρ w O k) : ∃ ad cvs, cv = .pointer (some ad) ∧ AV.simL ρ w O xs cvs ∧ (∀ j u, cvs[j]? = some u → w.cell? (ad.add j) = some u) := by
  cases h with
  | @p k off bk h =>
    simp only [AV.sim] at hs
    obtain ⟨bl, h1, rfl⟩ := hs
    obtain ⟨cvs, h2, h3⟩ := blk_cells (hro k bk (lk_one k bk)) h1
    refine ⟨_, cvs.drop off, rfl, simL_drop off h2, fun j u hj => ?_⟩
    rw [add_none]
    exact h3 _ _ (by rw [List.getElem?_drop] at hj; exact hj)
  | rp =>
    simp only [AV.sim] at hs
    obtain ⟨ad, cvs, rfl, h1, h2⟩ := hs
    refine ⟨ad, cvs, rfl, h2, fun j u hj => (h1 ?_).2 j u hj⟩
    have := (List.getElem?_eq_some_iff.1 hj).1
    omega
theorem Ptr.bd {H : List (Nat × Blk)} {v : AV} {xs : List AV} {ro : List (Nat × Blk)} (h : Ptr H v xs ro) {S : Nat → Prop} (hv : v.inS S) (hro : ∀ k b, (k, b) ∈ ro → S k ∧ b.inS S) : AV.inSL S xs := by
  cases h with
  | @p k off bk h =>
    have := (hro k bk (List.mem_singleton.2 rfl)).2
    rw [inSL_iff]
    intro x hx
    exact inSL_iff.1 this x (List.mem_of_mem_drop hx)
  | rp => simpa [AV.inS] using hv
inductive Sl (H : List (Nat × Blk)) : AV → Nat → List AV → List (Nat × Blk) → Prop
  | row {k : Nat} {t : TypeId} {sz n : Nat} {cs : List AV} (h : lk H k = some (.row t sz n cs)) : Sl H (.row k) n cs [(k, .row t sz n cs)]
  | sl {k off len : Nat} {bk : Blk} (h : lk H k = some bk) : Sl H (.sl k off len) len (bk.cs.drop off) [(k, bk)]
  | vs {n : Nat} {xs : List AV} : Sl H (.vs n xs) n xs []
  | nils : Sl H .nils 0 [] []
theorem Sl.ro {H : List (Nat × Blk)} {v : AV} {n : Nat} {xs : List AV} {ro : List (Nat × Blk)} (h : Sl H v n xs ro) : ∀ k b, (k, b) ∈ ro → lk H k = some b := by
  intro k b hm
  cases h with
  | row h => simp at hm; rw [hm.1, hm.2]; exact h
  | sl h => simp at hm; rw [hm.1, hm.2]; exact h
  | _ => simp at hm
theorem Sl.sim {H : List (Nat × Blk)} {v : AV} {n : Nat} {xs : List AV} {ro : List (Nat × Blk)} (h : Sl H v n xs ro) {ρ : Nat → Value} {w : World} {O : Nat → Prop} {cv : Value} (hs : v.sim ρ w O cv)
    (hro : ∀ k b, lk ro k = some b → b.ok ρ w O k) : ∃ a cap cvs, cv = .slice a n cap ∧ n ≤ cap ∧ AV.simL ρ w O xs cvs ∧ (0 < n → 0 < xs.length → ∃ ad, a = some ad ∧ ∀ j u, cvs[j]? = some u → w.cell? (ad.add j) = some u) := by
  cases h with
  | @row k t sz _ _ h =>
    simp only [AV.sim] at hs
    obtain ⟨hs, _⟩ := hs
    subst hs
    have hk := hro k _ (lk_one k _)
    obtain ⟨h0, h1 | ⟨bl, cap, cur, lo, hi, h1, h2, h3, h4, h5, h6, h7⟩⟩ := hk
    · obtain ⟨h1, rfl⟩ := h1
      rw [h1]
      have hcs : xs = [] := List.eq_nil_of_length_eq_zero (by simpa using h0)
      subst hcs
      exact ⟨none, 0, [], rfl, Nat.le_refl _, by simp [AV.simL], fun h => by omega⟩
    · rw [h1]
      refine ⟨_, cap, _, rfl, h3, h7, fun _ _ => ⟨_, rfl, fun j u hj => ?_⟩⟩
      rw [add_none, Nat.zero_add, cell_of_row w bl j cur t (lo, hi) h2]
      rw [List.getElem?_take] at hj
      split at hj
      · simpa using hj
      · cases hj
  | @sl k off len bk h =>
    simp only [AV.sim] at hs
    obtain ⟨a, cap, rfl, h1, h2⟩ := hs
    have hk := hro k bk (lk_one k bk)
    by_cases hl : 0 < n
    · obtain ⟨bl, h3, rfl⟩ := h2 hl
      obtain ⟨cvs, h4, h5⟩ := blk_cells hk h3
      refine ⟨_, cap, cvs.drop off, rfl, h1, simL_drop off h4, fun _ _ => ⟨_, rfl, fun j u hj => ?_⟩⟩
      rw [add_none]
      exact h5 _ _ (by rw [List.getElem?_drop] at hj; exact hj)
    · -- no element: the cells are those of the block, wherever it lies
      have hcv : ∃ cvs, AV.simL ρ w O bk.cs cvs := by
        cases bk with
        | blk _ _ => obtain ⟨_, cvs, _, _, h3⟩ := hk; exact ⟨_, h3⟩
        | row _ _ _ cs1 =>
          obtain ⟨h0, h3 | h3⟩ := hk
          · have hnil : cs1 = [] := List.eq_nil_of_length_eq_zero (by rw [h0, h3.2]; simp)
            subst hnil
            exact ⟨[], by simp [Blk.cs, AV.simL]⟩
          · obtain ⟨_, _, _, _, _, _, _, _, _, _, _, h3⟩ := h3
            exact ⟨_, h3⟩
      obtain ⟨cvs, h4⟩ := hcv
      exact ⟨a, cap, cvs.drop off, rfl, h1, simL_drop off h4, fun h => absurd h hl⟩
  | vs =>
    simp only [AV.sim] at hs
    obtain ⟨a, cap, cvs, rfl, h1, h2, h3⟩ := hs
    exact ⟨a, cap, cvs, rfl, h1, h3, fun _ hx => by
      obtain ⟨ad, h4, _, h5⟩ := h2 (by rw [simL_length h3]; exact hx)
      exact ⟨ad, h4, h5⟩⟩
  | nils =>
    simp only [AV.sim] at hs
    subst hs
    exact ⟨none, 0, [], rfl, Nat.le_refl _, by simp [AV.simL], fun h => by omega⟩
theorem Sl.bd {H : List (Nat × Blk)} {v : AV} {n : Nat} {xs : List AV} {ro : List (Nat × Blk)} (h : Sl H v n xs ro) {S : Nat → Prop} (hv : v.inS S) (hro : ∀ k b, (k, b) ∈ ro → S k ∧ b.inS S) : AV.inSL S xs := by
  cases h with
  | @row k t sz n cs h => exact (hro k _ (List.mem_singleton.2 rfl)).2
  | @sl k off len bk h =>
    have := (hro k bk (List.mem_singleton.2 rfl)).2
    rw [inSL_iff]
    intro x hx
    exact inSL_iff.1 this x (List.mem_of_mem_drop hx)
  | vs => simpa [AV.inS] using hv
  | nils => simp [AV.inSL]
theorem run_isAgg {P : Program} {t : TypeId} {b : Bool} {n : Nat} (h : shp P t = some (b, n)) (w : World) : (isAgg t).run P w = .ok b w ∧ (sizeOf t).run P w = .ok n w := by
  unfold shp at h
  split at h
  · rename_i d i hd hi
    simp at h
    obtain ⟨h1, h2⟩ := h
    constructor
    · unfold isAgg
      simp only [Sem.run_bind, run_underlying hd, Result.andThen_ok]
      subst h1
      cases d <;> rfl
    · simp [sizeOf, typeInfo, hi, h2]
  · cases h
def unit (agg : Bool) (n : Nat) (xs : List AV) (v : AV) : Prop := n ≤ xs.length ∧ (if agg then v = .ag (xs.take n) else xs[0]? = some v)
theorem unit_sim {ρ : Nat → Value} {w : World} {O : Nat → Prop} {b : Bool} {n : Nat} {xs : List AV} {v : AV} {cvs : List Value} (hu : unit b n xs v) (hs : AV.simL ρ w O xs cvs) :
    n ≤ cvs.length ∧ ∃ cv, (if b then cv = .agg (cvs.take n).toArray else cvs[0]? = some cv) ∧ v.sim ρ w O cv := by
  have hl := simL_length hs
  refine ⟨by have := hu.1; omega, ?_⟩
  cases b
  · obtain ⟨_, h⟩ := hu
    simp only [Bool.false_eq_true, if_false] at h ⊢
    obtain ⟨cv, h1, h2⟩ := simL_get hs h
    exact ⟨cv, h1, h2⟩
  · obtain ⟨_, h⟩ := hu
    simp only [if_true] at h ⊢
    subst h
    exact ⟨_, rfl, by simp only [AV.sim]; exact ⟨_, rfl, simL_take n hs⟩⟩
theorem unit_bd {S : Nat → Prop} {b : Bool} {n : Nat} {xs : List AV} {v : AV} (hu : unit b n xs v) (h : AV.inSL S xs) : v.inS S := by
  cases b
  · obtain ⟨_, h1⟩ := hu
    simp only [Bool.false_eq_true, if_false] at h1
    exact inSL_iff.1 h v (List.mem_of_getElem? h1)
  · obtain ⟨_, h1⟩ := hu
    simp only [if_true] at h1
    subst h1
    simp only [AV.inS]
    rw [inSL_iff]
    intro x hx
    exact inSL_iff.1 h x (List.mem_of_mem_take hx)
theorem run_loadVar {P : Program} {t : TypeId} {b : Bool} {n : Nat} (h : shp P t = some (b, n)) (w : World) (a : Addr) (cvs : List Value) (hc : ∀ j u, cvs[j]? = some u → w.cell? (a.add j) = some u) (hn : n ≤ cvs.length)
    (cv : Value) (hv : if b then cv = .agg (cvs.take n).toArray else cvs[0]? = some cv) : (loadVar t a).run P w = .ok cv w := by
  obtain ⟨h1, h2⟩ := run_isAgg h w
  unfold loadVar
  simp only [Sem.run_bind, h1, Result.andThen_ok]
  cases b
  · simp only [Bool.false_eq_true, if_false] at hv ⊢
    have := hc 0 cv hv
    rw [add_zero'] at this
    simp [this]
  · simp only [if_true] at hv ⊢
    simp only [Sem.run_bind, h2, Result.andThen_ok]
    have := run_loadCells_list (P := P) w a (cvs.take n) (fun j u hj => hc j u (by
      rw [List.getElem?_take] at hj
      split at hj
      · exact hj
      · cases hj))
    rw [List.length_take, Nat.min_eq_left hn] at this
    rw [this, hv]; rfl
section
variable {C : Ctx} {N : Nat} {E : List (Nat × AV)} {H : List (Nat × Blk)} {d : Nat} {ty : TypeId} {ps : String} {af : Array Edge} {g : Option (Nat × Bool)} (hC : C.Ok)
include hC
theorem oc_load {x : Operand} {av : AV} {xs : List AV} {p : List (Nat × AV)} {ro : List (Nat × Blk)} {t : TypeId} {b : Bool} {n : Nat} {v : AV} (hx : OpV E x av p) (hp : Ptr H av xs ro) (hT : shp C.P t = some (b, n)) (hu : unit b n xs v)
    (hd : Nat.blt d C.T = true) (hd6 : Nat.blt d 1000000 = true) :
    OpC C ⟨N, E, H⟩ ⟨some d, .load t x, ty, ps, af, g⟩ ⟨⟨some d, .load t x, ty, ps, af, g⟩, false, p, ro, [], [], v⟩ ⟨N, (d, v) :: E, H⟩ := by
  refine oc_pure hC rfl hd hd6 (fun _ h => by cases h) hx.pre hp.ro (fun ρ w O a hpr hro => ?_) (fun S h1 h2 => unit_bd hu (hp.bd (hx.bd h1) h2))
  obtain ⟨ad, cvs, h1, h2, h3⟩ := hp.sim (hx.sim hpr) hro
  obtain ⟨h4, cv, h5, h6⟩ := unit_sim hu h2
  refine ⟨cv, ?_, h6⟩
  simp only [execOp, h1, Instr.loadAt, Instr.sureAddr, Sem.run_bind, Sem.run_pure, Result.andThen_ok, run_loadVar hT w ad cvs h3 h4 cv h5]
omit hC in
theorem run_idx {P : Program} {t : TypeId} {n : Option Nat} {sz : Nat} (h : idx P t = some (n, sz)) : (∃ m e i, n = some m ∧ P.underlying t = some (.array m e) ∧ P.info? e = some i ∧ i.size = sz) ∨
    (∃ e i, n = none ∧ P.underlying t = some (.slice e) ∧ P.info? e = some i ∧ i.size = sz) := by
  unfold idx at h
  split at h
  · rename_i m e hu
    obtain ⟨i, hi, he⟩ := Option.map_eq_some_iff.1 h
    simp at he
    exact .inl ⟨m, e, i, he.1.symm, hu, hi, he.2⟩
  · rename_i e hu
    obtain ⟨i, hi, he⟩ := Option.map_eq_some_iff.1 h
    simp at he
    exact .inr ⟨e, i, he.1.symm, hu, hi, he.2⟩
  · cases h
omit hC in
theorem run_size {P : Program} {e : TypeId} {i : TypeInfo} {sz : Nat} (hi : P.info? e = some i) (hs : i.size = sz) (w : World) : (sizeOf e).run P w = .ok sz w := by simp [sizeOf, typeInfo, hi, hs]
inductive IxP : AV → Nat → AV → Prop
  | p {k off m r : Nat} (h : off + m = r) : IxP (.p k off) m (.p k r)
  | rp {xs : List AV} {m : Nat} (h : m < xs.length) : IxP (.rp xs) m (.rp (xs.drop m))
omit hC in
theorem IxP.sim {v u : AV} {m : Nat} (h : IxP v m u) {ρ : Nat → Value} {w : World} {O : Nat → Prop} {cv : Value} (hs : v.sim ρ w O cv) : ∃ ad, cv = .pointer (some ad) ∧ u.sim ρ w O (.pointer (some (ad.add m))) := by
  cases h with
  | @p k off m r h =>
    subst h
    simp only [AV.sim] at hs ⊢
    obtain ⟨bl, h1, rfl⟩ := hs
    exact ⟨_, rfl, bl, h1, by rw [add_none]⟩
  | @rp xs m hm =>
    simp only [AV.sim] at hs ⊢
    obtain ⟨ad, cvs, rfl, h1, h2⟩ := hs
    have hl := simL_length h2
    obtain ⟨h3, h4⟩ := h1 (by omega)
    refine ⟨ad, rfl, ad.add m, cvs.drop m, rfl, fun _ => ⟨by rw [add_block]; exact h3, fun j cv hj => ?_⟩, simL_drop m h2⟩
    rw [add_add]
    exact h4 _ _ (by rw [List.getElem?_drop] at hj; exact hj)
omit hC in
theorem IxP.bd {v u : AV} {m : Nat} (h : IxP v m u) {S : Nat → Prop} (hv : v.inS S) : u.inS S := by
  cases h with
  | p => simpa [AV.inS] using hv
  | rp hm =>
    simp only [AV.inS] at hv ⊢
    rw [inSL_iff] at hv ⊢
    exact fun x hx => hv x (List.mem_of_mem_drop hx)
theorem oc_indexA {x y : Operand} {av u : AV} {p q : List (Nat × AV)} {t : TypeId} {m sz : Nat} {k : IntKind} {i : Int} (hx : OpV E x av p) (hy : OpV E y (.i k i) q) (hT : idx C.P t = some (some m, sz))
    (h0 : 0 ≤ i) (h1 : i < m) (hu : IxP av (i.toNat * sz) u) (hd : Nat.blt d C.T = true) (hd6 : Nat.blt d 1000000 = true) :
    OpC C ⟨N, E, H⟩ ⟨some d, .indexAddr t x y, ty, ps, af, g⟩ ⟨⟨some d, .indexAddr t x y, ty, ps, af, g⟩, false, p ++ q, [], [], [], u⟩ ⟨N, (d, u) :: E, H⟩ := by
  refine oc_pure hC rfl hd hd6 (fun _ h => by cases h) (fun t av hm => ?_) (by simp) (fun ρ w O a hpr hro => ?_) (fun S h1 h2 => hu.bd (hx.bd fun t v hm => h1 t v (List.mem_append_left _ hm)))
  · rcases List.mem_append.1 hm with h | h
    · exact hx.pre t av h
    · exact hy.pre t av h
  · obtain ⟨ad, h2, h3⟩ := hu.sim (hx.sim (fun t v hm => hpr t v (List.mem_append_left _ hm)))
    have h4 := hy.sim (fun t v hm => hpr t v (List.mem_append_right _ hm))
    simp only [AV.sim] at h4
    refine ⟨_, ?_, h3⟩
    rcases run_idx hT with ⟨m', e, i', hm, hU, hi, hsz⟩ | ⟨e, i', hm, hU, hi, hsz⟩
    · cases hm
      simp only [execOp, h2, h4, Instr.indexAt, asIntOf, Sem.run_bind, Sem.run_pure, Result.andThen_ok, run_underlying hU, Instr.sureAddr]
      simp [h0, h1, run_size hi hsz]
    · cases hm
inductive IxS (H : List (Nat × Blk)) : AV → Nat → Nat → AV → List (Nat × Blk) → Prop
  | row {k : Nat} {t : TypeId} {sz n m : Nat} {cs : List AV} (h : lk H k = some (.row t sz n cs)) : IxS H (.row k) n m (.p k m) [(k, .row t sz n cs)]
  | sl {k off len m r : Nat} (h : off + m = r) : IxS H (.sl k off len) len m (.p k r) []
  | vs {n m : Nat} {xs : List AV} (h : m < xs.length) : IxS H (.vs n xs) n m (.rp (xs.drop m)) []
omit hC in
theorem IxS.ro {H : List (Nat × Blk)} {v u : AV} {n m : Nat} {ro : List (Nat × Blk)} (h : IxS H v n m u ro) : ∀ k b, (k, b) ∈ ro → lk H k = some b := by
  intro k b hm
  cases h with
  | row h => simp at hm; rw [hm.1, hm.2]; exact h
  | _ => simp at hm
omit hC in
theorem IxS.sim {H : List (Nat × Blk)} {v u : AV} {n m : Nat} {ro : List (Nat × Blk)} (h : IxS H v n m u ro) (hn : 0 < n) {ρ : Nat → Value} {w : World} {O : Nat → Prop} {cv : Value} (hs : v.sim ρ w O cv)
    (hro : ∀ k b, lk ro k = some b → b.ok ρ w O k) : ∃ ad cap, cv = .slice (some ad) n cap ∧ u.sim ρ w O (.pointer (some (ad.add m))) := by
  cases h with
  | @row k t sz n m cs h =>
    simp only [AV.sim] at hs ⊢
    obtain ⟨hs, _⟩ := hs
    subst hs
    obtain ⟨h0, h1 | ⟨bl, cap, cur, lo, hi, h1, h2, h3, h4, h5, h6, h7⟩⟩ := hro k _ (lk_one k _)
    · omega
    · exact ⟨⟨bl, 0, none⟩, cap, h1, bl, by rw [h1]; rfl, by rw [add_none, Nat.zero_add]⟩
  | @sl k off len m r h =>
    subst h
    simp only [AV.sim] at hs ⊢
    obtain ⟨a, cap, rfl, h1, h2⟩ := hs
    obtain ⟨bl, h3, rfl⟩ := h2 hn
    exact ⟨_, cap, rfl, bl, h3, by rw [add_none]⟩
  | @vs n m xs hm =>
    simp only [AV.sim] at hs ⊢
    obtain ⟨a, cap, cvs, rfl, h1, h2, h3⟩ := hs
    have hl := simL_length h3
    obtain ⟨ad, rfl, h4, h5⟩ := h2 (by omega)
    refine ⟨ad, cap, rfl, ad.add m, cvs.drop m, rfl, fun _ => ⟨by rw [add_block]; exact h4, fun j cv hj => ?_⟩, simL_drop m h3⟩
    rw [add_add]
    exact h5 _ _ (by rw [List.getElem?_drop] at hj; exact hj)
omit hC in
theorem IxS.bd {H : List (Nat × Blk)} {v u : AV} {n m : Nat} {ro : List (Nat × Blk)} (h : IxS H v n m u ro) {S : Nat → Prop} (hv : v.inS S) : u.inS S := by
  cases h with
  | row h => simpa [AV.inS] using hv
  | sl => simpa [AV.inS] using hv
  | vs hm =>
    simp only [AV.inS] at hv ⊢
    rw [inSL_iff] at hv ⊢
    exact fun x hx => hv x (List.mem_of_mem_drop hx)
theorem oc_indexS {x y : Operand} {av u : AV} {p q : List (Nat × AV)} {ro : List (Nat × Blk)} {t : TypeId} {n sz : Nat} {k : IntKind} {i : Int} (hx : OpV E x av p) (hy : OpV E y (.i k i) q) (hT : idx C.P t = some (none, sz))
    (hu : IxS H av n (i.toNat * sz) u ro) (h0 : 0 ≤ i) (h1 : i < n) (hd : Nat.blt d C.T = true) (hd6 : Nat.blt d 1000000 = true) :
    OpC C ⟨N, E, H⟩ ⟨some d, .indexAddr t x y, ty, ps, af, g⟩ ⟨⟨some d, .indexAddr t x y, ty, ps, af, g⟩, false, p ++ q, ro, [], [], u⟩ ⟨N, (d, u) :: E, H⟩ := by
  refine oc_pure hC rfl hd hd6 (fun _ h => by cases h) (fun t av hm => ?_) hu.ro (fun ρ w O a hpr hro => ?_) (fun S h1 h2 => hu.bd (hx.bd fun t v hm => h1 t v (List.mem_append_left _ hm)))
  · rcases List.mem_append.1 hm with h | h
    · exact hx.pre t av h
    · exact hy.pre t av h
  · obtain ⟨ad, cap, h2, h3⟩ := hu.sim (by omega) (hx.sim (fun t v hm => hpr t v (List.mem_append_left _ hm))) hro
    have h4 := hy.sim (fun t v hm => hpr t v (List.mem_append_right _ hm))
    simp only [AV.sim] at h4
    refine ⟨_, ?_, h3⟩
    rcases run_idx hT with ⟨m', e, i', hm, hU, hi, hsz⟩ | ⟨e, i', hm, hU, hi, hsz⟩
    · cases hm
    · simp only [execOp, h2, h4, Instr.indexAt, asIntOf, Sem.run_bind, Sem.run_pure, Result.andThen_ok, run_underlying hU]
      simp [h0, h1, run_size hi hsz]
theorem oc_field {x : Operand} {av u : AV} {p : List (Nat × AV)} {t : TypeId} {f off n : Nat} {b : Bool} (hx : OpV E x av p) (hT : fld C.P t f = some (off, b, n)) (hn : 0 < n) (hu : IxP av off u) (hd : Nat.blt d C.T = true) (hd6 : Nat.blt d 1000000 = true) :
    OpC C ⟨N, E, H⟩ ⟨some d, .fieldAddr t x f, ty, ps, af, g⟩ ⟨⟨some d, .fieldAddr t x f, ty, ps, af, g⟩, false, p, [], [], [], u⟩ ⟨N, (d, u) :: E, H⟩ := by
  refine oc_pure hC rfl hd hd6 (fun _ h => by cases h) hx.pre (by simp) (fun ρ w O a hpr hro => ?_) (fun S h1 h2 => hu.bd (hx.bd h1))
  obtain ⟨ad, h2, h3⟩ := hu.sim (hx.sim hpr)
  refine ⟨_, ?_, h3⟩
  unfold fld at hT
  split at hT
  · rename_i fs hU
    split at hT
    · rename_i y hy
      obtain ⟨z, hz, he⟩ := Option.map_eq_some_iff.1 hT
      obtain ⟨zb, zn⟩ := z
      simp at he
      obtain ⟨he1, he2, he3⟩ := he
      subst he1 he2 he3
      obtain ⟨_, hsz⟩ := run_isAgg hz w
      have hn0 : zn ≠ 0 := by omega
      simp [execOp, h2, Instr.fieldAt, Sem.run_bind, Sem.run_pure, Result.andThen_ok, run_underlying hU, hy, Instr.sureAddr, fieldPlace, hsz, hn0]
    · cases hT
  · cases hT
omit hC in
theorem run_part {P : Program} {t : TypeId} {b : Bool} {n : Nat} (h : shp P t = some (b, n)) (w : World) (cvs : List Value) (off : Nat) (cv : Value)
    (hv : if b then cv = .agg ((cvs.drop off).take n).toArray else (cvs.drop off)[0]? = some cv) : (part t cvs.toArray off).run P w = .ok cv w := by
  obtain ⟨h1, h2⟩ := run_isAgg h w
  unfold part
  simp only [Sem.run_bind, h1, Result.andThen_ok]
  cases b
  · simp only [Bool.false_eq_true, if_false] at hv ⊢
    have : cvs[off]? = some cv := by simpa using hv
    simp [this]
  · simp only [if_true] at hv ⊢
    simp only [Sem.run_bind, h2, Result.andThen_ok, Sem.run_pure, hv]
    congr 2
    apply Array.ext'
    simp [List.extract_eq_take_drop]
theorem oc_index {x y : Operand} {xs : List AV} {v : AV} {p q : List (Nat × AV)} {t : TypeId} {m n : Nat} {b : Bool} {k : IntKind} {i : Int} (hx : OpV E x (.ag xs) p) (hy : OpV E y (.i k i) q) (hT : elt C.P t = some (m, b, n))
    (h0 : 0 ≤ i) (h1 : i < m) (hle : i.toNat * n + n ≤ xs.length) (hu : unit b n (xs.drop (i.toNat * n)) v) (hd : Nat.blt d C.T = true) (hd6 : Nat.blt d 1000000 = true) :
    OpC C ⟨N, E, H⟩ ⟨some d, .index t x y, ty, ps, af, g⟩ ⟨⟨some d, .index t x y, ty, ps, af, g⟩, false, p ++ q, [], [], [], v⟩ ⟨N, (d, v) :: E, H⟩ := by
  refine oc_pure hC rfl hd hd6 (fun _ h => by cases h) (fun t av hm => ?_) (by simp) (fun ρ w O a hpr hro => ?_) (fun S h1 h2 => ?_)
  · rcases List.mem_append.1 hm with h | h
    · exact hx.pre t av h
    · exact hy.pre t av h
  · have h2 := hx.sim (fun t v hm => hpr t v (List.mem_append_left _ hm))
    have h4 := hy.sim (fun t v hm => hpr t v (List.mem_append_right _ hm))
    simp only [AV.sim] at h2 h4
    obtain ⟨cvs, h2, h3⟩ := h2
    obtain ⟨_, cv, h5, h6⟩ := unit_sim hu (simL_drop (i.toNat * n) h3)
    refine ⟨cv, ?_, h6⟩
    unfold elt at hT
    split at hT
    · rename_i m' e hU
      obtain ⟨z, hz, he⟩ := Option.map_eq_some_iff.1 hT
      obtain ⟨zb, zn⟩ := z
      simp at he
      obtain ⟨he1, he2, he3⟩ := he
      subst he1 he2 he3
      obtain ⟨_, hsz⟩ := run_isAgg hz w
      simp [execOp, h2, h4, Instr.index, asIntOf, Sem.run_bind, Result.andThen_ok, run_underlying hU, h0, h1, hsz, run_part hz w cvs (i.toNat * zn) cv h5]
    · cases hT
  · have := hx.bd (S := S) (fun t v hm => h1 t v (List.mem_append_left _ hm))
    simp only [AV.inS] at this
    refine unit_bd hu ?_
    rw [inSL_iff] at this ⊢
    exact fun x hx => this x (List.mem_of_mem_drop hx)
theorem oc_extract {x : Operand} {xs : List AV} {v : AV} {p : List (Nat × AV)} {i : Nat} (hx : OpV E x (.tu xs) p) (hv : xs[i]? = some v) (hd : Nat.blt d C.T = true) (hd6 : Nat.blt d 1000000 = true) :
    OpC C ⟨N, E, H⟩ ⟨some d, .extract x i, ty, ps, af, g⟩ ⟨⟨some d, .extract x i, ty, ps, af, g⟩, false, p, [], [], [], v⟩ ⟨N, (d, v) :: E, H⟩ := by
  refine oc_pure hC rfl hd hd6 (fun _ h => by cases h) hx.pre (by simp) (fun ρ w O a hpr hro => ?_) (fun S h1 h2 => ?_)
  · have h1 := hx.sim hpr
    simp only [AV.sim] at h1
    obtain ⟨cvs, h1, h2⟩ := h1
    obtain ⟨cv, h3, h4⟩ := simL_get h2 hv
    exact ⟨cv, by simp [execOp, h1, Instr.extract, h3], h4⟩
  · have := hx.bd h1
    simp only [AV.inS] at this
    exact inSL_iff.1 this v (List.mem_of_getElem? hv)
end
end Go.Sk
namespace Go.Sk
open Go.RowKit
inductive OpVL (E : List (Nat × AV)) : List Operand → List AV → List (Nat × AV) → Prop
  | nil : OpVL E [] [] []
  | cons {x : Operand} {v : AV} {p q : List (Nat × AV)} {xs : List Operand} {vs : List AV} (h : OpV E x v p) (t : OpVL E xs vs q) : OpVL E (x :: xs) (v :: vs) (p ++ q)
theorem OpVL.pre {E : List (Nat × AV)} : ∀ {xs : List Operand} {vs : List AV} {p : List (Nat × AV)}, OpVL E xs vs p → ∀ t v, (t, v) ∈ p → lk E t = some v
  | _, _, _, .nil => by simp
  | _, _, _, .cons h t => fun a b hm => by
    rcases List.mem_append.1 hm with hm | hm
    · exact h.pre a b hm
    · exact t.pre a b hm
theorem OpVL.sim {E : List (Nat × AV)} {ρ : Nat → Value} {w : World} {O : Nat → Prop} {a : Act} : ∀ {xs : List Operand} {vs : List AV} {p : List (Nat × AV)}, OpVL E xs vs p →
    (∀ t v, (t, v) ∈ p → ∃ cv, slot a t = some cv ∧ v.sim ρ w O cv) → AV.simL ρ w O vs (xs.map a.eval)
  | _, _, _, .nil, _ => by simp [AV.simL]
  | _, _, _, .cons h t, hp => by
    simp only [List.map_cons, AV.simL]
    exact ⟨h.sim fun t v hm => hp t v (List.mem_append_left _ hm), t.sim fun t v hm => hp t v (List.mem_append_right _ hm)⟩
theorem OpVL.bd {E : List (Nat × AV)} {S : Nat → Prop} : ∀ {xs : List Operand} {vs : List AV} {p : List (Nat × AV)}, OpVL E xs vs p → (∀ t v, (t, v) ∈ p → v.inS S) → AV.inSL S vs
  | _, _, _, .nil, _ => by simp [AV.inSL]
  | _, _, _, .cons h t, hp => by
    simp only [AV.inSL]
    exact ⟨h.bd fun t v hm => hp t v (List.mem_append_left _ hm), t.bd fun t v hm => hp t v (List.mem_append_right _ hm)⟩
inductive OptV (E : List (Nat × AV)) (dflt : Nat) : Option Operand → Nat → List (Nat × AV) → Prop
  | no : OptV E dflt .none dflt []
  | yes {x : Operand} {k : IntKind} {i : Int} {n : Nat} {p : List (Nat × AV)} (h : OpV E x (.i k i) p) (hi : i = n) : OptV E dflt (.some x) n p
theorem OptV.pre {E : List (Nat × AV)} {dflt n : Nat} {x : Option Operand} {p : List (Nat × AV)} (h : OptV E dflt x n p) : ∀ t v, (t, v) ∈ p → lk E t = some v := by
  cases h with
  | no => simp
  | yes h hi => exact h.pre
theorem OptV.sim {E : List (Nat × AV)} {dflt n : Nat} {x : Option Operand} {p : List (Nat × AV)} (h : OptV E dflt x n p) {ρ : Nat → Value} {w : World} {O : Nat → Prop} {a : Act}
    (hp : ∀ t v, (t, v) ∈ p → ∃ cv, slot a t = some cv ∧ v.sim ρ w O cv) : (x.map a.eval = none ∧ n = dflt) ∨ ∃ k, x.map a.eval = some (.int k n) := by
  cases h with
  | no => exact .inl ⟨rfl, rfl⟩
  | @yes x k i n p h hi =>
    have := h.sim hp
    simp only [AV.sim] at this
    exact .inr ⟨k, by simp [this, hi]⟩
theorem run_bound {P : Program} (w : World) (k : IntKind) (n y : Nat) (c : BoundsCode) (h : n ≤ y) : (Instr.sliceBound (.int k n) y c).run P w = .ok n w := by
  have h1 : (0 : Int) ≤ n := by omega
  have h2 : (n : Int) ≤ y := by omega
  simp [Instr.sliceBound, asIntOf, h2]
theorem run_sliceBounds {P : Program} (w : World) (isS : Bool) (len cap : Nat) (lo hi : Option Value) (l h : Nat)
    (hlo : (lo = none ∧ l = 0) ∨ ∃ k, lo = some (.int k l)) (hhi : (hi = none ∧ h = len) ∨ ∃ k, hi = some (.int k h)) (h1 : l ≤ h) (h2 : h ≤ cap) :
    (Instr.sliceBounds isS len cap lo hi none).run P w = .ok (l, h, cap) w := by
  unfold Instr.sliceBounds
  rcases hlo with ⟨rfl, rfl⟩ | ⟨k, rfl⟩ <;> rcases hhi with ⟨rfl, rfl⟩ | ⟨k', rfl⟩ <;> simp [run_bound, h1, h2]
section
variable {C : Ctx} {N : Nat} {E : List (Nat × AV)} {H : List (Nat × Blk)} {d : Nat} {ty : TypeId} {ps : String} {af : Array Edge} {g : Option (Nat × Bool)} (hC : C.Ok)
inductive CutA : AV → Nat → Nat → Nat → AV → Prop
  | p {k off sz l h r : Nat} (hr : off + l * sz = r) : CutA (.p k off) sz l h (.sl k r (h - l))
  | rp {xs : List AV} {sz l h : Nat} (hx : h * sz ≤ xs.length) : CutA (.rp xs) sz l h (.vs (h - l) ((xs.drop (l * sz)).take ((h - l) * sz)))
theorem CutA.sim {v u : AV} {sz l h m : Nat} (hc : CutA v sz l h u) (hl : l ≤ h) (hm : h ≤ m) {ρ : Nat → Value} {w : World} {O : Nat → Prop} {cv : Value} (hs : v.sim ρ w O cv) :
    ∃ ad, cv = .pointer (some ad) ∧ u.sim ρ w O (.slice (some (if m = l then ad else ad.add (l * sz))) (h - l) (m - l)) := by
  cases hc with
  | @p k off sz l h r hr =>
    subst hr
    simp only [AV.sim] at hs ⊢
    obtain ⟨bl, h1, rfl⟩ := hs
    refine ⟨_, rfl, _, _, rfl, by omega, fun hlt => ⟨bl, h1, ?_⟩⟩
    rw [if_neg (by omega), add_none]
  | @rp xs sz l h hx =>
    simp only [AV.sim] at hs ⊢
    obtain ⟨ad, cvs, rfl, h1, h2⟩ := hs
    have hlen := simL_length h2
    refine ⟨ad, rfl, _, _, (cvs.drop (l * sz)).take ((h - l) * sz), rfl, by omega, fun hlt => ?_, simL_take _ (simL_drop _ h2)⟩
    have hlt2 : 0 < (h - l) * sz ∧ l * sz < cvs.length := by simp at hlt; omega
    have hhl : 0 < h - l := by
      rcases Nat.eq_zero_or_pos (h - l) with h3 | h3
      · rw [h3] at hlt2; omega
      · exact h3
    obtain ⟨h3, h4⟩ := h1 (by omega)
    rw [if_neg (by omega)]
    refine ⟨_, rfl, by rw [add_block]; exact h3, fun j cv hj => ?_⟩
    rw [add_add]
    rw [List.getElem?_take] at hj
    split at hj
    · rw [List.getElem?_drop] at hj; exact h4 _ _ hj
    · cases hj
theorem CutA.bd {v u : AV} {sz l h : Nat} (hc : CutA v sz l h u) {S : Nat → Prop} (hv : v.inS S) : u.inS S := by
  cases hc with
  | p => simpa [AV.inS] using hv
  | rp hx =>
    simp only [AV.inS] at hv ⊢
    rw [inSL_iff] at hv ⊢
    exact fun x hx => hv x (List.mem_of_mem_drop (List.mem_of_mem_take hx))
include hC in
theorem oc_cutA {x : Operand} {lo hi : Option Operand} {av u : AV} {p q r : List (Nat × AV)} {t : TypeId} {m sz l h : Nat} (hx : OpV E x av p) (hlo : OptV E 0 lo l q) (hhi : OptV E m hi h r) (hT : idx C.P t = some (some m, sz))
    (h1 : l ≤ h) (h2 : h ≤ m) (hu : CutA av sz l h u) (hd : Nat.blt d C.T = true) (hd6 : Nat.blt d 1000000 = true) :
    OpC C ⟨N, E, H⟩ ⟨some d, .slice t x lo hi none, ty, ps, af, g⟩ ⟨⟨some d, .slice t x lo hi none, ty, ps, af, g⟩, false, p ++ (q ++ r), [], [], [], u⟩ ⟨N, (d, u) :: E, H⟩ := by
  refine oc_pure hC rfl hd hd6 (fun _ h => by cases h) (fun t av hm => ?_) (by simp) (fun ρ w O a hpr hro => ?_) (fun S h1 h2 => hu.bd (hx.bd fun t v hm => h1 t v (List.mem_append_left _ hm)))
  · rcases List.mem_append.1 hm with h | h
    · exact hx.pre t av h
    · rcases List.mem_append.1 h with h | h
      · exact hlo.pre t av h
      · exact hhi.pre t av h
  · obtain ⟨ad, h3, h4⟩ := hu.sim h1 h2 (hx.sim (fun t v hm => hpr t v (List.mem_append_left _ hm)))
    have hl := hlo.sim (fun t v hm => hpr t v (List.mem_append_right _ (List.mem_append_left _ hm)))
    have hh := hhi.sim (fun t v hm => hpr t v (List.mem_append_right _ (List.mem_append_right _ hm)))
    refine ⟨_, ?_, h4⟩
    rcases run_idx hT with ⟨m', e, i', hm, hU, hi, hsz⟩ | ⟨e, i', hm, hU, hi, hsz⟩
    · cases hm
      simp only [execOp, h3, Instr.sliceAt, Sem.run_bind, Sem.run_pure, Result.andThen_ok, run_underlying hU, Instr.sureAddr, Option.map_none,
        run_sliceBounds (P := C.P) w false m m _ _ l h hl hh h1 h2, run_size hi hsz]
    · cases hm
inductive CutS (H : List (Nat × Blk)) : AV → Nat → Nat → Nat → Nat → AV → List (Nat × Blk) → Prop
  | row {k : Nat} {t : TypeId} {sz n l h r : Nat} {cs : List AV} (hk : lk H k = some (.row t sz n cs)) (hr : l * sz = r) : CutS H (.row k) sz n l h (.sl k r (h - l)) [(k, .row t sz n cs)]
  | sl {k off n sz l h r : Nat} (hr : off + l * sz = r) : CutS H (.sl k off n) sz n l h (.sl k r (h - l)) []
  | vs {n sz l h : Nat} {xs : List AV} (hx : h * sz ≤ xs.length) : CutS H (.vs n xs) sz n l h (.vs (h - l) ((xs.drop (l * sz)).take ((h - l) * sz))) []
  | nils {sz : Nat} : CutS H .nils sz 0 0 0 .nils []
theorem CutS.ro {H : List (Nat × Blk)} {v u : AV} {sz n l h : Nat} {ro : List (Nat × Blk)} (hc : CutS H v sz n l h u ro) : ∀ k b, (k, b) ∈ ro → lk H k = some b := by
  intro k b hm
  cases hc with
  | row h => simp at hm; rw [hm.1, hm.2]; exact h
  | _ => simp at hm
theorem CutS.sim {H : List (Nat × Blk)} {v u : AV} {sz n l h : Nat} {ro : List (Nat × Blk)} (hc : CutS H v sz n l h u ro) (hl : l ≤ h) (hm : h ≤ n) {ρ : Nat → Value} {w : World} {O : Nat → Prop} {cv : Value} (hs : v.sim ρ w O cv)
    (hro : ∀ k b, lk ro k = some b → b.ok ρ w O k) : ∃ a cap, cv = .slice a n cap ∧ n ≤ cap ∧ u.sim ρ w O (.slice (if cap = l then a else a.map (·.add (l * sz))) (h - l) (cap - l)) := by
  cases hc with
  | @row k t sz n l h r cs hk hr =>
    subst hr
    simp only [AV.sim] at hs ⊢
    obtain ⟨hs, _⟩ := hs
    subst hs
    obtain ⟨h0, h1 | ⟨bl, cap, cur, lo, hi, h1, h2, h3, h4, h5, h6, h7⟩⟩ := hro k _ (lk_one k _)
    · obtain ⟨h1, rfl⟩ := h1
      refine ⟨none, 0, h1, Nat.le_refl _, _, _, rfl, by omega, fun hlt => by omega⟩
    · refine ⟨_, cap, h1, h3, _, _, rfl, by omega, fun hlt => ⟨bl, by rw [h1]; rfl, ?_⟩⟩
      rw [if_neg (by omega)]
      simp [add_none]
  | @sl k off n sz l h r hr =>
    subst hr
    simp only [AV.sim] at hs ⊢
    obtain ⟨a, cap, rfl, h1, h2⟩ := hs
    refine ⟨a, cap, rfl, h1, _, _, rfl, by omega, fun hlt => ?_⟩
    obtain ⟨bl, h3, rfl⟩ := h2 (by omega)
    exact ⟨bl, h3, by rw [if_neg (by omega)]; simp [add_none]⟩
  | @vs n sz l h xs hx =>
    simp only [AV.sim] at hs ⊢
    obtain ⟨a, cap, cvs, rfl, h1, h2, h3⟩ := hs
    have hlen := simL_length h3
    refine ⟨a, cap, rfl, h1, _, _, (cvs.drop (l * sz)).take ((h - l) * sz), rfl, by omega, fun hlt => ?_, simL_take _ (simL_drop _ h3)⟩
    have hlt2 : 0 < (h - l) * sz ∧ l * sz < cvs.length := by simp at hlt; omega
    have hhl : 0 < h - l := by
      rcases Nat.eq_zero_or_pos (h - l) with h3 | h3
      · rw [h3] at hlt2; omega
      · exact h3
    obtain ⟨ad, rfl, h4, h5⟩ := h2 (by omega)
    rw [if_neg (by omega)]
    refine ⟨_, rfl, by rw [add_block]; exact h4, fun j cv hj => ?_⟩
    rw [add_add]
    rw [List.getElem?_take] at hj
    split at hj
    · rw [List.getElem?_drop] at hj; exact h5 _ _ hj
    · cases hj
  | nils =>
    simp only [AV.sim] at hs ⊢
    subst hs
    exact ⟨none, 0, rfl, Nat.le_refl _, by simp⟩
theorem CutS.bd {H : List (Nat × Blk)} {v u : AV} {sz n l h : Nat} {ro : List (Nat × Blk)} (hc : CutS H v sz n l h u ro) {S : Nat → Prop} (hv : v.inS S) : u.inS S := by
  cases hc with
  | row h => simpa [AV.inS] using hv
  | sl => simpa [AV.inS] using hv
  | vs hx =>
    simp only [AV.inS] at hv ⊢
    rw [inSL_iff] at hv ⊢
    exact fun x hx => hv x (List.mem_of_mem_drop (List.mem_of_mem_take hx))
  | nils => simp [AV.inS]
include hC in
theorem oc_cutS {x : Operand} {lo hi : Option Operand} {av u : AV} {p q r : List (Nat × AV)} {ro : List (Nat × Blk)} {t : TypeId} {n sz l h : Nat} (hx : OpV E x av p) (hlo : OptV E 0 lo l q) (hhi : OptV E n hi h r) (hT : idx C.P t = some (none, sz))
    (hu : CutS H av sz n l h u ro) (h1 : l ≤ h) (h2 : h ≤ n) (hd : Nat.blt d C.T = true) (hd6 : Nat.blt d 1000000 = true) :
    OpC C ⟨N, E, H⟩ ⟨some d, .slice t x lo hi none, ty, ps, af, g⟩ ⟨⟨some d, .slice t x lo hi none, ty, ps, af, g⟩, false, p ++ (q ++ r), ro, [], [], u⟩ ⟨N, (d, u) :: E, H⟩ := by
  refine oc_pure hC rfl hd hd6 (fun _ h => by cases h) (fun t av hm => ?_) hu.ro (fun ρ w O a hpr hro => ?_) (fun S h1 h2 => hu.bd (hx.bd fun t v hm => h1 t v (List.mem_append_left _ hm)))
  · rcases List.mem_append.1 hm with h | h
    · exact hx.pre t av h
    · rcases List.mem_append.1 h with h | h
      · exact hlo.pre t av h
      · exact hhi.pre t av h
  · obtain ⟨ad, cap, h3, h5, h4⟩ := hu.sim h1 h2 (hx.sim (fun t v hm => hpr t v (List.mem_append_left _ hm))) hro
    have hl := hlo.sim (fun t v hm => hpr t v (List.mem_append_right _ (List.mem_append_left _ hm)))
    have hh := hhi.sim (fun t v hm => hpr t v (List.mem_append_right _ (List.mem_append_right _ hm)))
    refine ⟨_, ?_, h4⟩
    rcases run_idx hT with ⟨m', e, i', hm, hU, hi, hsz⟩ | ⟨e, i', hm, hU, hi, hsz⟩
    · cases hm
    · simp only [execOp, h3, Instr.sliceAt, Instr.slice, Sem.run_bind, Sem.run_pure, Result.andThen_ok, run_underlying hU, Option.map_none,
        run_sliceBounds (P := C.P) w true n cap _ _ l h hl hh h1 (by omega), run_size hi hsz]
inductive ArrS (H : List (Nat × Blk)) : AV → Nat → Nat → AV → List (Nat × Blk) → Prop
  | row {k : Nat} {t : TypeId} {sz n : Nat} {cs : List AV} (hk : lk H k = some (.row t sz n cs)) : ArrS H (.row k) sz n (.p k 0) [(k, .row t sz n cs)]
  | sl {k off n sz : Nat} : ArrS H (.sl k off n) sz n (.p k off) []
  | vs {n sz : Nat} {xs : List AV} (hx : 0 < xs.length) : ArrS H (.vs n xs) sz n (.rp xs) []
theorem ArrS.ro {H : List (Nat × Blk)} {v u : AV} {sz n : Nat} {ro : List (Nat × Blk)} (hc : ArrS H v sz n u ro) : ∀ k b, (k, b) ∈ ro → lk H k = some b := by
  intro k b hm
  cases hc with
  | row h => simp at hm; rw [hm.1, hm.2]; exact h
  | _ => simp at hm
theorem ArrS.sim {H : List (Nat × Blk)} {v u : AV} {sz n : Nat} {ro : List (Nat × Blk)} (hc : ArrS H v sz n u ro) (hn : 0 < n) {ρ : Nat → Value} {w : World} {O : Nat → Prop} {cv : Value} (hs : v.sim ρ w O cv)
    (hro : ∀ k b, lk ro k = some b → b.ok ρ w O k) : ∃ a cap, cv = .slice a n cap ∧ u.sim ρ w O (.pointer a) := by
  cases hc with
  | @row k t sz n cs hk =>
    simp only [AV.sim] at hs ⊢
    obtain ⟨hs, _⟩ := hs
    subst hs
    obtain ⟨h0, h1 | ⟨bl, cap, cur, lo, hi, h1, h2, h3, h4, h5, h6, h7⟩⟩ := hro k _ (lk_one k _)
    · omega
    · exact ⟨_, cap, h1, bl, by rw [h1]; rfl, rfl⟩
  | @sl k off n sz =>
    simp only [AV.sim] at hs ⊢
    obtain ⟨a, cap, rfl, h1, h2⟩ := hs
    obtain ⟨bl, h3, rfl⟩ := h2 hn
    exact ⟨_, cap, rfl, bl, h3, rfl⟩
  | @vs n sz xs hx =>
    simp only [AV.sim] at hs ⊢
    obtain ⟨a, cap, cvs, rfl, h1, h2, h3⟩ := hs
    have hlen := simL_length h3
    obtain ⟨ad, rfl, h4, h5⟩ := h2 (by omega)
    exact ⟨_, cap, rfl, ad, cvs, rfl, fun _ => ⟨h4, h5⟩, h3⟩
theorem ArrS.bd {H : List (Nat × Blk)} {v u : AV} {sz n : Nat} {ro : List (Nat × Blk)} (hc : ArrS H v sz n u ro) {S : Nat → Prop} (hv : v.inS S) : u.inS S := by
  cases hc <;> simpa [AV.inS] using hv
include hC in
theorem oc_arr {x : Operand} {av u : AV} {p : List (Nat × AV)} {ro : List (Nat × Blk)} {t : TypeId} {n m sz : Nat} (hx : OpV E x av p) (hT : idx C.P t = some (some m, sz)) (hu : ArrS H av sz n u ro) (h0 : 0 < m) (h1 : m ≤ n)
    (hd : Nat.blt d C.T = true) (hd6 : Nat.blt d 1000000 = true) :
    OpC C ⟨N, E, H⟩ ⟨some d, .sliceToArrayPointer t x, ty, ps, af, g⟩ ⟨⟨some d, .sliceToArrayPointer t x, ty, ps, af, g⟩, false, p, ro, [], [], u⟩ ⟨N, (d, u) :: E, H⟩ := by
  refine oc_pure hC rfl hd hd6 (fun _ h => by cases h) hx.pre hu.ro (fun ρ w O a hpr hro => ?_) (fun S h1 h2 => hu.bd (hx.bd h1))
  obtain ⟨ad, cap, h3, h4⟩ := hu.sim (by omega) (hx.sim hpr) hro
  refine ⟨_, ?_, h4⟩
  rcases run_idx hT with ⟨m', e, i', hm, hU, hi, hsz⟩ | ⟨e, i', hm, hU, hi, hsz⟩
  · cases hm
    have : ¬ n < m := by omega
    simp only [execOp, h3, Instr.arrayAt, Sem.run_bind, Sem.run_pure, Result.andThen_ok, run_underlying hU, if_neg this]
  · cases hm
theorem run_builtin {P : Program} (a : Act) (w : World) (dst : Option Tmp) (b : Builtin) (xs : Array Operand) (ts : Array TypeId) (r : Value) (w' : World) (h : (builtin b ts ty (xs.map fun | .const _ => true | _ => false) (xs.map a.eval)).run P w = .ok (.value r) w') :
    (execOp a.eval ⟨dst, .call ⟨.builtin b, xs, ts⟩, ty, ps, af, g⟩).run P w = .ok (.value r) w' := by
  simp only [execOp, resolve, Sem.run_bind, Sem.run_pure, Result.andThen_ok, invoke]
  exact h
include hC in
theorem oc_len {x : Operand} {av : AV} {n : Nat} {xs : List AV} {p : List (Nat × AV)} {ro : List (Nat × Blk)} {t e : TypeId} (hx : OpV E x av p) (hs : Sl H av n xs ro) (hT : C.P.underlying t = some (.slice e)) (hd : Nat.blt d C.T = true) (hd6 : Nat.blt d 1000000 = true) :
    OpC C ⟨N, E, H⟩ ⟨some d, .call ⟨.builtin .len, #[x], #[t]⟩, ty, ps, af, g⟩ ⟨⟨some d, .call ⟨.builtin .len, #[x], #[t]⟩, ty, ps, af, g⟩, false, p, ro, [], [], .i .i64 n⟩ ⟨N, (d, .i .i64 n) :: E, H⟩ := by
  refine oc_pure hC rfl hd hd6 (fun _ h => by cases h) hx.pre hs.ro (fun ρ w O a hpr hro => ?_) (fun S h1 h2 => inS_i)
  obtain ⟨a', cap, cvs, h1, h2, h3, _⟩ := hs.sim (hx.sim hpr) hro
  refine ⟨.int .i64 n, run_builtin a w _ _ _ _ _ _ ?_, by simp [AV.sim]⟩
  simp [builtin, Builtin.len_, h1, run_underlying hT, goInt]
include hC in
theorem oc_max {x y : Operand} {k : IntKind} {m n : Int} {p q : List (Nat × AV)} {ts : Array TypeId} (hx : OpV E x (.i k m) p) (hy : OpV E y (.i k n) q) (hd : Nat.blt d C.T = true) (hd6 : Nat.blt d 1000000 = true) :
    OpC C ⟨N, E, H⟩ ⟨some d, .call ⟨.builtin .max, #[x, y], ts⟩, ty, ps, af, g⟩ ⟨⟨some d, .call ⟨.builtin .max, #[x, y], ts⟩, ty, ps, af, g⟩, false, p ++ q, [], [], [], .i k (max m n)⟩ ⟨N, (d, .i k (max m n)) :: E, H⟩ := by
  refine oc_pure hC rfl hd hd6 (fun _ h => by cases h) (fun t av hm => ?_) (by simp) (fun ρ w O A hp _ => ⟨.int k (max m n), run_builtin A w _ _ _ _ _ _ ?_, by simp [AV.sim]⟩) (fun S _ _ => inS_i)
  · rcases List.mem_append.1 hm with h | h
    · exact hx.pre t av h
    · exact hy.pre t av h
  · have h1 := hx.sim (fun t v hm => hp t v (List.mem_append_left _ hm))
    have h2 := hy.sim (fun t v hm => hp t v (List.mem_append_right _ hm))
    simp only [AV.sim] at h1 h2
    have : (if n > m then n else m) = max m n := by split <;> omega
    simp [builtin, Builtin.max_, Builtin.max2, h1, h2, this]
include hC in
theorem oc_min {x y : Operand} {k : IntKind} {m n : Int} {p q : List (Nat × AV)} {ts : Array TypeId} (hx : OpV E x (.i k m) p) (hy : OpV E y (.i k n) q) (hd : Nat.blt d C.T = true) (hd6 : Nat.blt d 1000000 = true) :
    OpC C ⟨N, E, H⟩ ⟨some d, .call ⟨.builtin .min, #[x, y], ts⟩, ty, ps, af, g⟩ ⟨⟨some d, .call ⟨.builtin .min, #[x, y], ts⟩, ty, ps, af, g⟩, false, p ++ q, [], [], [], .i k (min m n)⟩ ⟨N, (d, .i k (min m n)) :: E, H⟩ := by
  refine oc_pure hC rfl hd hd6 (fun _ h => by cases h) (fun t av hm => ?_) (by simp) (fun ρ w O A hp _ => ⟨.int k (min m n), run_builtin A w _ _ _ _ _ _ ?_, by simp [AV.sim]⟩) (fun S _ _ => inS_i)
  · rcases List.mem_append.1 hm with h | h
    · exact hx.pre t av h
    · exact hy.pre t av h
  · have h1 := hx.sim (fun t v hm => hp t v (List.mem_append_left _ hm))
    have h2 := hy.sim (fun t v hm => hp t v (List.mem_append_right _ hm))
    simp only [AV.sim] at h1 h2
    have : (if n < m then n else m) = min m n := by split <;> omega
    simp [builtin, Builtin.min_, Builtin.min2, h1, h2, this]
theorem oc_func {fn : FuncId} {caps : Array Operand} {vs : List AV} {p : List (Nat × AV)} (hC : C.Ok) (hx : OpVL E caps.toList vs p) (hd : Nat.blt d C.T = true) (hd6 : Nat.blt d 1000000 = true) (hfn : Nat.blt fn 1000000000 = true := by rfl) :
    OpC C ⟨N, E, H⟩ ⟨some d, .makeFunc (.func fn) #[] caps, ty, ps, af, g⟩ ⟨⟨some d, .makeFunc (.func fn) #[] caps, ty, ps, af, g⟩, false, p, [], [], [], .f fn vs⟩ ⟨N, (d, .f fn vs) :: E, H⟩ := by
  refine oc_pure hC rfl hd hd6 (fun _ h => by cases h) hx.pre (by simp) (fun ρ w O A hp _ => ⟨.func (.func fn) #[] (caps.map A.eval), by simp [execOp, Instr.makeFunc], ?_⟩) (fun S h1 _ => by simp only [AV.inS]; exact hx.bd h1)
  simp only [AV.sim, tgt_func hfn]
  exact ⟨caps.toList.map A.eval, by congr 1; apply Array.ext'; simp, hx.sim hp⟩
def AV.cells : AV → List AV
  | .ag xs => xs
  | v => [v]
def AV.one : AV → Bool
  | .ag _ | .tu _ | .un => false
  | _ => true
def AV.flat : AV → Bool
  | .ag xs => xs.all AV.one
  | v => v.one
theorem sim_one {ρ : Nat → Value} {w : World} {O : Nat → Prop} {x : AV} {v : Value} (h : x.one = true) (hs : x.sim ρ w O v) : v.oneCell' = true := by
  cases x <;> simp only [AV.one, Bool.false_eq_true] at h <;> simp only [AV.sim] at hs
  all_goals first
    | (subst hs; rfl)
    | (obtain ⟨_, _, rfl⟩ := hs; rfl)
    | (obtain ⟨_, _, _, _, rfl⟩ := hs; rfl)
    | (obtain ⟨_, _, rfl, _⟩ := hs; rfl)
    | (obtain ⟨_, _, _, rfl, _⟩ := hs; rfl)
    | (obtain ⟨_, rfl, _⟩ := hs; rfl)
theorem sim_cells {ρ : Nat → Value} {w : World} {O : Nat → Prop} {x : AV} {v : Value} (h : x.flat = true) (hs : x.sim ρ w O v) : AV.simL ρ w O x.cells v.cells.toList := by
  cases x
  case ag xs =>
    simp only [AV.sim] at hs
    obtain ⟨cvs, rfl, h2⟩ := hs
    simpa [AV.cells, Value.cells] using h2
  case tu => simp [AV.flat, AV.one] at h
  case un => simp [AV.flat, AV.one] at h
  all_goals
    have h1 := sim_one (by simpa [AV.flat] using h) hs
    simp only [AV.cells]
    have h2 : v.cells = #[v] := by cases v <;> simp_all [Value.oneCell', Value.cells]
    rw [h2]
    simp only [AV.simL, and_true]
    exact hs
def fillAV (place : Nat → Option (Nat × Nat)) (cells : List AV) : List (Nat × AV) → Option (List AV)
  | [] => some cells
  | (i, v) :: rest =>
    match place i with
    | none => none
    | some (off, size) =>
      if v.cells.length = size && Nat.ble (off + size) cells.length && v.flat then fillAV place ((v.cells.zipIdx).foldl (fun cs (c, j) => cs.set (off + j) c) cells) rest
      else none
theorem fill_foldl {ρ : Nat → Value} {w : World} {O : Nat → Prop} (off : Nat) : ∀ (xs : List AV) (vs : List Value) (m : Nat) (cs : List AV) (us : Array Value), AV.simL ρ w O xs vs → AV.simL ρ w O cs us.toList →
    AV.simL ρ w O ((xs.zipIdx m).foldl (fun cs (c, j) => cs.set (off + j) c) cs) ((vs.zipIdx m).foldl (fun (cs : Array Value) (c, j) => cs.setIfInBounds (off + j) c) us).toList
  | [], [], _, cs, us, _, h => by simpa using h
  | x :: xs, v :: vs, m, cs, us, hx, h => by
    simp only [AV.simL] at hx
    simp only [List.zipIdx_cons, List.foldl_cons]
    refine fill_foldl off xs vs (m + 1) _ _ hx.2 ?_
    rw [Array.toList_setIfInBounds]
    exact simL_set _ h hx.1
  | [], _ :: _, _, _, _, h, _ => by simp [AV.simL] at h
  | _ :: _, [], _, _, _, h, _ => by simp [AV.simL] at h
theorem fill_sim {ρ : Nat → Value} {w : World} {O : Nat → Prop} {place : Nat → Option (Nat × Nat)} : ∀ (ps : List (Nat × AV)) (vs : List (Nat × Value)) (cs : List AV) (us : Array Value) (out : List AV),
    fillAV place cs ps = some out → ps.map (·.1) = vs.map (·.1) → AV.simL ρ w O (ps.map (·.2)) (vs.map (·.2)) →
    AV.simL ρ w O cs us.toList → ∃ r, Instr.fill place us vs = some r ∧ AV.simL ρ w O out r.toList
  | [], [], cs, us, out, h, _, _, hs => by
    simp [fillAV] at h; subst h
    exact ⟨us, rfl, hs⟩
  | (i, x) :: ps, (i', v) :: vs, cs, us, out, h, hi, hx, hs => by
    simp only [List.map_cons, List.cons.injEq] at hi
    obtain ⟨rfl, hi⟩ := hi
    simp only [List.map_cons, AV.simL] at hx
    unfold fillAV at h
    unfold Instr.fill
    cases hp : place i with
    | none => rw [hp] at h; cases h
    | some os =>
      obtain ⟨off, size⟩ := os
      rw [hp] at h
      simp only at h ⊢
      split at h
      · rename_i hc
        simp only [Bool.and_eq_true, decide_eq_true_eq] at hc
        obtain ⟨⟨h1, h2⟩, h3⟩ := hc
        have hv := sim_cells h3 hx.1
        have hl := simL_length hv
        have hl2 := simL_length hs
        have h2' := Nat.le_of_ble_eq_true h2
        simp only [Array.length_toList] at hl hl2
        have hno : ¬ ((decide (v.cells.size ≠ size) || decide (off + v.cells.size > us.size)) = true) := by simp; omega
        rw [if_neg (by simpa using hno)]
        have e : v.cells.zipIdx.foldl (fun (cs : Array Value) (c, j) => cs.setIfInBounds (off + j) c) us = (v.cells.toList.zipIdx 0).foldl (fun (cs : Array Value) (c, j) => cs.setIfInBounds (off + j) c) us := by
          rw [← Array.foldl_toList]; simp
        rw [e]
        exact fill_sim ps vs _ _ out h hi hx.2 (fill_foldl off _ _ 0 _ _ hv hs)
      · cases h
  | [], _ :: _, _, _, _, _, hi, _, _ => by simp at hi
  | _ :: _, [], _, _, _, _, hi, _, _ => by simp at hi
def cval : Value → Option AV
  | .int k n => some (.i k n)
  | .bool b => some (.b b)
  | .string x => some (.s x)
  | .pointer none => some .nilp
  | .slice none 0 0 => some .nils
  | .nilFunc => some .nilf
  | _ => none
def cvals : List Value → Option (List AV)
  | [] => some []
  | v :: r => match cval v, cvals r with
    | some x, some xs => some (x :: xs)
    | _, _ => none
theorem cval_sim {ρ : Nat → Value} {w : World} {O : Nat → Prop} {v : Value} {x : AV} (h : cval v = some x) : x.sim ρ w O v := by
  unfold cval at h
  split at h <;> simp at h <;> subst h <;> simp [AV.sim]
theorem cval_bd {S : Nat → Prop} {v : Value} {x : AV} (h : cval v = some x) : x.inS S := by
  unfold cval at h
  split at h <;> simp at h <;> subst h <;> simp [AV.inS]
theorem cvals_sim {ρ : Nat → Value} {w : World} {O : Nat → Prop} : ∀ {vs : List Value} {xs : List AV}, cvals vs = some xs → AV.simL ρ w O xs vs
  | [], xs, h => by simp [cvals] at h; subst h; simp [AV.simL]
  | v :: r, xs, h => by
    unfold cvals at h
    split at h
    · rename_i x xs' h1 h2
      simp at h; subst h
      simp only [AV.simL]
      exact ⟨cval_sim h1, cvals_sim h2⟩
    · cases h
theorem cvals_bd {S : Nat → Prop} : ∀ {vs : List Value} {xs : List AV}, cvals vs = some xs → AV.inSL S xs
  | [], xs, h => by simp [cvals] at h; subst h; simp [AV.inSL]
  | v :: r, xs, h => by
    unfold cvals at h
    split at h
    · rename_i x xs' h1 h2
      simp at h; subst h
      simp only [AV.inSL]
      exact ⟨cval_bd h1, cvals_bd h2⟩
    · cases h
def zeroAV (P : Program) (t : TypeId) : Option (List AV) :=
  match P.info? t with
  | some i => match i.zero with
    | some v => cvals v.cells.toList
    | none => none
  | none => none
theorem run_zeroAV {P : Program} {t : TypeId} {xs : List AV} (h : zeroAV P t = some xs) (w : World) : ∃ v, (zeroValue t).run P w = .ok v w ∧ cvals v.cells.toList = some xs := by
  unfold zeroAV at h
  split at h
  · rename_i i hi
    split at h
    · rename_i v hv
      exact ⟨v, by simp [zeroValue, typeInfo, hi, hv], h⟩
    · cases h
  · cases h
def placesOf (P : Program) (t : TypeId) (i : Nat) : Option (Nat × Nat) :=
  match P.underlying t with
  | some (.struct fs) => (fs[i]?).map fun f => (f.offset, P.cellsOf f.type)
  | some (.array _ e) => some (i * P.cellsOf e, P.cellsOf e)
  | _ => none
theorem AV.inSL_set {S : Nat → Prop} {xs : List AV} {x : AV} (h : AV.inSL S xs) (hx : x.inS S) (n : Nat) : AV.inSL S (xs.set n x) := by
  rw [inSL_iff] at h ⊢
  intro y hy
  rcases List.mem_or_eq_of_mem_set hy with hy | rfl
  · exact h y hy
  · exact hx
theorem AV.inSL_cells {S : Nat → Prop} {x : AV} (h : x.inS S) : AV.inSL S x.cells := by
  cases x <;> simp only [AV.cells, AV.inSL, and_true] <;> first | exact h | simpa [AV.inS] using h
theorem fill_bd {S : Nat → Prop} {place : Nat → Option (Nat × Nat)} : ∀ (ps : List (Nat × AV)) (cs out : List AV), fillAV place cs ps = some out → AV.inSL S (ps.map (·.2)) → AV.inSL S cs → AV.inSL S out
  | [], cs, out, h, _, hs => by simp [fillAV] at h; subst h; exact hs
  | (i, x) :: ps, cs, out, h, hx, hs => by
    simp only [List.map_cons, AV.inSL] at hx
    unfold fillAV at h
    split at h
    · cases h
    · split at h
      · refine fill_bd ps _ out h hx.2 ?_
        have : ∀ (xs : List AV) (m off : Nat) (cs : List AV), AV.inSL S xs → AV.inSL S cs → AV.inSL S ((xs.zipIdx m).foldl (fun cs (c, j) => cs.set (off + j) c) cs) := by
          intro xs
          induction xs with
          | nil => intro m off cs _ h; simpa using h
          | cons y ys ih =>
            intro m off cs hy h
            simp only [AV.inSL] at hy
            simp only [List.zipIdx_cons, List.foldl_cons]
            exact ih _ _ _ hy.2 (AV.inSL_set h hy.1 _)
        exact this _ _ _ _ (AV.inSL_cells hx.1) hs
      · cases h
end
end Go.Sk
namespace Go.Sk
open Go.RowKit
def upd1 (ρ : Nat → Value) (k : Nat) (v : Value) : Nat → Value := fun j => if j = k then v else ρ j
theorem upd1_ne {ρ : Nat → Value} {k : Nat} {v : Value} {j : Nat} (h : j ≠ k) : upd1 ρ k v j = ρ j := by simp [upd1, h]
theorem upd1_eq {ρ : Nat → Value} {k : Nat} {v : Value} : upd1 ρ k v k = v := by simp [upd1]
section
variable {X S : Nat → Prop} {ρ : Nat → Value} {w w' : World} {ro rd : List (Nat × Blk)} {κ : Nat} {bk : Blk} {cv : Value}
theorem hok_new (hk : HOK X ρ w (lk (ro ++ rd))) (hX : ∀ b, X b → b < w.heap.size) (s2 : ∀ k b, (k, b) ∈ ro → S k ∧ b.inS S) (hκ : ¬ S κ) (hdj : ∀ k, lk rd k ≠ none → lk ro k = none) (hfr : Fr w (owned ρ (lk rd)) w')
    (hb : ∀ b, blkOf cv = some b → owned ρ (lk rd) b ∨ w.heap.size ≤ b)
    (hok : bk.ok (upd1 ρ κ cv) w' (fun b => X b ∨ owned (upd1 ρ κ cv) (lk (ro ++ [(κ, bk)])) b) κ) :
    HOK X (upd1 ρ κ cv) w' (lk (ro ++ [(κ, bk)])) ∧ (∀ b, owned (upd1 ρ κ cv) (lk [(κ, bk)]) b → owned ρ (lk rd) b ∨ w.heap.size ≤ b) ∧
    (∀ (x : Addr) (v : Value), ¬ (X x.block ∨ owned ρ (lk (ro ++ rd)) x.block) → w.cell? x = some v → w'.cell? x = some v ∧ ¬ (X x.block ∨ owned (upd1 ρ κ cv) (lk (ro ++ [(κ, bk)])) x.block)) ∧
    (∀ k, S k → upd1 ρ κ cv k = ρ k) := by
  have hroS : ∀ k b, lk ro k = some b → S k := fun k b h => (s2 k b (lk_mem h)).1
  have hroκ : lk ro κ = none := by
    cases hc : lk ro κ with
    | none => rfl
    | some b => exact absurd (hroS κ b hc) hκ
  have hρ : ∀ k, S k → upd1 ρ κ cv k = ρ k := fun k hk => upd1_ne (fun h => hκ (h ▸ hk))
  have hin : ∀ k b, lk ro k = some b → lk (ro ++ rd) k = some b := fun k b h => by rw [lk_append, h]
  have hinr : ∀ k b, lk rd k = some b → lk (ro ++ rd) k = some b := fun k b h => by rw [lk_append, hdj k (by rw [h]; simp)]; exact h
  have hcase : ∀ k b, lk (ro ++ [(κ, bk)]) k = some b → lk ro k = some b ∨ (k = κ ∧ b = bk) := by
    intro k b h
    rw [lk_append] at h
    cases hc : lk ro k with
    | some c => rw [hc] at h; exact .inl h
    | none =>
      rw [hc] at h
      simp only at h
      rw [lk_cons] at h
      split at h
      · rename_i e; cases h; exact .inr ⟨e.symm, rfl⟩
      · simp [lk] at h
  have hrdown : ∀ b, owned ρ (lk rd) b → owned ρ (lk (ro ++ rd)) b := fun b ⟨k, c, h1, h2⟩ => ⟨k, c, hinr k c h1, h2⟩
  have hown : ∀ b, owned (upd1 ρ κ cv) (lk (ro ++ [(κ, bk)])) b → owned ρ (lk (ro ++ rd)) b ∨ w.heap.size ≤ b := by
    rintro b ⟨k, c, h1, h2⟩
    rcases hcase k c h1 with h3 | ⟨rfl, rfl⟩
    · rw [hρ k (hroS k c h3)] at h2
      exact .inl ⟨k, c, hin k c h3, h2⟩
    · rw [upd1_eq] at h2
      exact (hb b h2).imp (hrdown b) id
  have hwm : ∀ (x : Addr) (v : Value), ¬ (X x.block ∨ owned ρ (lk (ro ++ rd)) x.block) → w.cell? x = some v → w'.cell? x = some v ∧ ¬ (X x.block ∨ owned (upd1 ρ κ cv) (lk (ro ++ [(κ, bk)])) x.block) := by
    intro x v hx hc
    refine ⟨hfr.cell (fun h => hx (.inr (hrdown _ h))) hc, ?_⟩
    rintro (h | h)
    · exact hx (.inl h)
    · rcases hown _ h with h | h
      · exact hx (.inr h)
      · have := block_lt_of_cell hc; omega
  refine ⟨⟨fun k b h => ?_, fun k k' b h1 h2 h3 h4 => ?_, fun b hb' hx => ?_⟩, ?_, hwm, hρ⟩
  · rcases hcase k b h with h3 | ⟨rfl, rfl⟩
    · have h4 := s2 k b (lk_mem h3)
      refine Blk.ok_mono hwm hρ h4.1 (fun c h5 h6 => hfr.block c h6 ?_) b h4.2 (hk.ok k b (hin k b h3))
      rintro ⟨k2, b2, h7, h8⟩
      have := hk.dist k k2 c (by rw [hin k b h3]; simp) (by rw [hinr k2 b2 h7]; simp) h5 h8
      subst this
      have := hdj k (by rw [h7]; simp)
      rw [h3] at this; cases this
    · exact hok
  · obtain ⟨c, hc⟩ := Option.ne_none_iff_exists'.1 h1
    obtain ⟨c', hc'⟩ := Option.ne_none_iff_exists'.1 h2
    have mixed : ∀ k c b, lk ro k = some c → blkOf (ρ k) = some b → blkOf cv = some b → False := by
      intro k c b g1 g2 g3
      rcases hb b g3 with ⟨k2, c2, g4, g5⟩ | g4
      · have := hk.dist k k2 b (by rw [hin k c g1]; simp) (by rw [hinr k2 c2 g4]; simp) g2 g5
        subst this
        have := hdj k (by rw [g4]; simp)
        rw [g1] at this; cases this
      · have := owned_lt hk ⟨k, c, hin k c g1, g2⟩; omega
    rcases hcase k c hc with h5 | ⟨rfl, rfl⟩ <;> rcases hcase k' c' hc' with h6 | ⟨rfl, rfl⟩
    · rw [hρ k (hroS k c h5)] at h3
      rw [hρ k' (hroS k' c' h6)] at h4
      exact hk.dist k k' b (by rw [hin k c h5]; simp) (by rw [hin k' c' h6]; simp) h3 h4
    · rw [hρ k (hroS k c h5)] at h3
      rw [upd1_eq] at h4
      exact (mixed k c b h5 h3 h4).elim
    · rw [hρ k' (hroS k' c' h6)] at h4
      rw [upd1_eq] at h3
      exact (mixed k' c' b h6 h4 h3).elim
    · rfl
  · rcases hown b hb' with h | h
    · exact hk.apart b h hx
    · have := hX b hx; omega
  · rintro b ⟨k, c, h1, h2⟩
    rw [lk_cons] at h1
    split at h1
    · rename_i e; subst e; rw [upd1_eq] at h2; exact hb b h2
    · simp [lk] at h1
theorem hok_set {bk' : Blk} {k : Nat} (hk : HOK X ρ w (lk (ro ++ [(k, bk)]))) (s2 : ∀ k b, (k, b) ∈ ro → S k ∧ b.inS S) (hdj : lk ro k = none) (hfr : Fr w (owned ρ (lk [(k, bk)])) w')
    (hok : bk'.ok ρ w' (fun b => X b ∨ owned ρ (lk (ro ++ [(k, bk')])) b) k) :
    HOK X ρ w' (lk (ro ++ [(k, bk')])) ∧ (∀ b, owned ρ (lk [(k, bk')]) b → owned ρ (lk [(k, bk)]) b ∨ w.heap.size ≤ b) ∧
    (∀ (x : Addr) (v : Value), ¬ (X x.block ∨ owned ρ (lk (ro ++ [(k, bk)])) x.block) → w.cell? x = some v → w'.cell? x = some v ∧ ¬ (X x.block ∨ owned ρ (lk (ro ++ [(k, bk')])) x.block)) := by
  have hsame : ∀ j, (lk (ro ++ [(k, bk')]) j ≠ none ↔ lk (ro ++ [(k, bk)]) j ≠ none) := by
    intro j
    rw [lk_append, lk_append]
    cases hc : lk ro j with
    | some c => simp
    | none => simp only [lk_cons]; split <;> simp [lk]
  have howns : ∀ b, owned ρ (lk (ro ++ [(k, bk')])) b ↔ owned ρ (lk (ro ++ [(k, bk)])) b := by
    intro b
    constructor
    · rintro ⟨j, c, h1, h2⟩
      obtain ⟨c', h3⟩ := Option.ne_none_iff_exists'.1 ((hsame j).1 (by rw [h1]; simp))
      exact ⟨j, c', h3, h2⟩
    · rintro ⟨j, c, h1, h2⟩
      obtain ⟨c', h3⟩ := Option.ne_none_iff_exists'.1 ((hsame j).2 (by rw [h1]; simp))
      exact ⟨j, c', h3, h2⟩
  have hwm : ∀ (x : Addr) (v : Value), ¬ (X x.block ∨ owned ρ (lk (ro ++ [(k, bk)])) x.block) → w.cell? x = some v → w'.cell? x = some v ∧ ¬ (X x.block ∨ owned ρ (lk (ro ++ [(k, bk')])) x.block) := by
    intro x v hx hc
    refine ⟨hfr.cell (fun h => hx (.inr ?_)) hc, fun h => hx (h.imp id (howns _).1)⟩
    obtain ⟨j, c, h1, h2⟩ := h
    rw [lk_cons] at h1
    split at h1
    · rename_i e
      subst e
      cases h1
      exact ⟨k, bk, by rw [lk_append, hdj]; exact lk_one k bk, h2⟩
    · simp [lk] at h1
  refine ⟨⟨fun j b h => ?_, fun j j' b h1 h2 h3 h4 => hk.dist j j' b ((hsame j).1 h1) ((hsame j').1 h2) h3 h4, fun b hb => hk.apart b ((howns b).1 hb)⟩, ?_, hwm⟩
  · rw [lk_append] at h
    cases hc : lk ro j with
    | some c =>
      rw [hc] at h; simp at h; subst h
      have h4 := s2 j c (lk_mem hc)
      have hin : lk (ro ++ [(k, bk)]) j = some c := by rw [lk_append, hc]
      refine Blk.ok_mono hwm (S := S) (fun _ _ => rfl) h4.1 (fun b h5 h6 => hfr.block b h6 ?_) c h4.2 (hk.ok j c hin)
      rintro ⟨k2, b2, h7, h8⟩
      rw [lk_cons] at h7
      split at h7
      · rename_i e; subst e; cases h7
        have := hk.dist j k b (by rw [hin]; simp) (by rw [lk_append, hdj]; simp [lk_one]) h5 h8
        subst this
        rw [hdj] at hc; cases hc
      · simp [lk] at h7
    | none =>
      rw [hc] at h
      simp only at h
      rw [lk_cons] at h
      split at h
      · rename_i e; subst e; cases h; exact hok
      · simp [lk] at h
  · rintro b ⟨j, c, h1, h2⟩
    rw [lk_cons] at h1
    split at h1
    · rename_i e; subst e; cases h1; exact .inl ⟨k, bk, lk_one k bk, h2⟩
    · simp [lk] at h1
end
theorem fr_alloc (w : World) (m : Nat) (o : Obj) (O : Nat → Prop) : Fr w O (({ w with drawn := m } : World).alloc o) :=
  ⟨rfl, rfl, rfl, by simp [World.alloc], fun k hk _ => heap_alloc_old { w with drawn := m } o hk⟩
section
variable {C : Ctx} {N : Nat} {E : List (Nat × AV)} {H : List (Nat × Blk)} {d : Nat} {ty : TypeId} {ps : String} {af : Array Edge} {g : Option (Nat × Bool)}
theorem oc_new {o : Oper} {v : AV} {bk : Blk} {pre : List (Nat × AV)} {ro : List (Nat × Blk)} (hC : C.Ok) (ho : o.dst = some d) (hd : Nat.blt d C.T = true) (hd6 : Nat.blt d 1000000 = true) (hnd : ∀ c, o.op ≠ .defer c)
    (hpre : ∀ t av, (t, av) ∈ pre → lk E t = some av) (hro : ∀ k b, (k, b) ∈ ro → lk H k = some b)
    (h : ∀ (ρ : Nat → Value) (w : World) (O : Nat → Prop) (a : Act), (∀ t av, (t, av) ∈ pre → ∃ cv, slot a t = some cv ∧ av.sim ρ w O cv) → (∀ k b, lk ro k = some b → b.ok ρ w O k) →
      (∀ t av, (t, av) ∈ pre → av.inS (· ≠ N)) → (∀ k b, (k, b) ∈ ro → k ≠ N ∧ b.inS (· ≠ N)) →
      ∃ (cv : Value) (m : Nat) (cells : Array Value) (t : TypeId) (fr : Nat × Nat), (execOp a.eval o).run C.P w = .ok (.value cv) (({ w with drawn := m } : World).alloc (.cells cells t fr)) ∧ blkOf cv = some w.heap.size ∧
        (∀ (ρ' : Nat → Value) (w' : World) (O' : Nat → Prop), ρ' N = cv → w'.heap[w.heap.size]? = some (.cells cells t fr) →
          (∀ xs vs, AV.inSL (· ≠ N) xs → AV.simL ρ w O xs vs → AV.simL ρ' w' O' xs vs) → bk.ok ρ' w' O' N ∧ v.sim ρ' w' O' cv))
    (bd : ∀ S : Nat → Prop, (∀ t av, (t, av) ∈ pre → av.inS S) → (∀ k b, (k, b) ∈ ro → S k ∧ b.inS S) → bk.inS S) (hv : ∀ S : Nat → Prop, S N → v.inS S) :
    OpC C ⟨N, E, H⟩ o ⟨o, false, pre, ro, [], [(N, bk)], v⟩ ⟨N + 1, (d, v) :: E, (N, bk) :: H⟩ := by
  have htri : Tri C.P C.F C.n o pre ro [] [(N, bk)] v := by
    refine Tri.of_value hC.fn hnd (fun X ρ w a hp hk hX hwr S s1 s2 s3 s4 => ?_) (fun S h1 h2 _ h4 => ?_)
    · have hk0 := hk
      rw [List.append_nil] at hp hk
      have hκ : ¬ S N := s4 N (by simp [lk_one]) (by simp [lk])
      have hSN : ∀ k, S k → k ≠ N := fun k hk e => hκ (e ▸ hk)
      obtain ⟨cv, m, cells, t, fr, h1, h2, h3⟩ := h ρ w _ a hp hk.ok (fun t av hm => inS_mono hSN av (s1 t av hm)) (fun k b hm => ⟨hSN k (s2 k b hm).1, inSL_mono hSN _ (s2 k b hm).2⟩)
      have hown0 : ∀ b, ¬ owned ρ (lk ([] : List (Nat × Blk))) b := by rintro b ⟨k, c, h, _⟩; simp [lk] at h
      have hheap : (({ w with drawn := m } : World).alloc (.cells cells t fr)).heap[w.heap.size]? = some (.cells cells t fr) := heap_alloc_new { w with drawn := m } _
      -- first what is told of the values, then of the blocks
      have main : ∀ (O' : Nat → Prop), (∀ (x : Addr) (u : Value), ¬ (X x.block ∨ owned ρ (lk ro) x.block) → w.cell? x = some u → (({ w with drawn := m } : World).alloc (.cells cells t fr)).cell? x = some u ∧ ¬ O' x.block) →
          bk.ok (upd1 ρ N cv) (({ w with drawn := m } : World).alloc (.cells cells t fr)) O' N ∧ v.sim (upd1 ρ N cv) (({ w with drawn := m } : World).alloc (.cells cells t fr)) O' cv := fun O' hO' =>
        h3 _ _ O' upd1_eq hheap fun xs vs hx hs => simL_mono (S := (· ≠ N)) hO' (fun k hk => upd1_ne hk) xs vs hx hs
      have hO' : ∀ (x : Addr) (u : Value), ¬ (X x.block ∨ owned ρ (lk ro) x.block) → w.cell? x = some u → (({ w with drawn := m } : World).alloc (.cells cells t fr)).cell? x = some u ∧
          ¬ (X x.block ∨ owned (upd1 ρ N cv) (lk (ro ++ [(N, bk)])) x.block) := by
        intro x u hx hc
        refine ⟨(fr_alloc w m _ (fun _ => False)).cell (fun h => h) hc, ?_⟩
        rintro (h | ⟨k, c, h5, h6⟩)
        · exact hx (.inl h)
        · rw [lk_append] at h5
          cases hcc : lk ro k with
          | some c' =>
            have hne : k ≠ N := fun e => by subst e; exact hκ (s2 _ c' (lk_mem hcc)).1
            rw [upd1_ne hne] at h6
            exact hx (.inr ⟨k, c', hcc, h6⟩)
          | none =>
            rw [hcc] at h5
            simp only at h5
            rw [lk_cons] at h5
            split at h5
            · rename_i e; subst e
              rw [upd1_eq, h2, Option.some.injEq] at h6
              have := block_lt_of_cell hc; omega
            · simp [lk] at h5
      obtain ⟨h5, h6⟩ := main (fun b => X b ∨ owned (upd1 ρ N cv) (lk (ro ++ [(N, bk)])) b) hO'
      obtain ⟨g1, g2, g3, g4⟩ := hok_new (bk := bk) (cv := cv) hk0 hX s2 hκ (by simp [lk]) (fr_alloc w m (.cells cells t fr) _) (fun b hb => .inr (by rw [h2, Option.some.injEq] at hb; omega)) h5
      refine ⟨cv, _, upd1 ρ N cv, .inl h1, fun k hk' => ?_, fr_alloc w m _ _, g1, g2, h6⟩
      refine upd1_ne fun e => ?_
      subst e
      rcases hk' with hk' | hk'
      · simp [lk_one] at hk'
      · simp [lk] at hk'
    · refine ⟨hv S (h4 N (by simp [lk_one]) (by simp [lk])), fun k b hm => ?_⟩
      simp at hm
      obtain ⟨h5, h6⟩ := hm
      rw [h5, h6]
      exact ⟨h4 N (by simp [lk_one]) (by simp [lk]), bd S h1 h2⟩
  refine { op := rfl, skip := rfl, tri := htri, pre := hpre, ro := hro, rd := by simp, dj := by simp [lk], new := ?_, N := Nat.le_succ _,
           dst := fun t ht => by rw [ho] at ht; cases ht; exact ⟨blt_lt hd, blt_lt hd6⟩,
           E1 := fun t => by rw [ho]; exact setE_cons _ _ _ _, H1 := fun k => ?_ }
  · intro k hk _
    simp only at hk
    rw [lk_cons] at hk
    split at hk
    · rename_i e; subst e; exact ⟨Nat.le_refl _, Nat.lt_succ_self _⟩
    · simp [lk] at hk
  · simp only
    rw [lk_cons]
    unfold upd
    rw [lk_cons]
    split <;> simp [lk]
theorem oc_newV {o : Oper} {v : AV} {pre : List (Nat × AV)} {ro : List (Nat × Blk)} (hC : C.Ok) (ho : o.dst = some d) (hd : Nat.blt d C.T = true) (hd6 : Nat.blt d 1000000 = true) (hnd : ∀ c, o.op ≠ .defer c)
    (hpre : ∀ t av, (t, av) ∈ pre → lk E t = some av) (hro : ∀ k b, (k, b) ∈ ro → lk H k = some b)
    (h : ∀ (ρ : Nat → Value) (w : World) (O : Nat → Prop) (a : Act), (∀ t av, (t, av) ∈ pre → ∃ cv, slot a t = some cv ∧ av.sim ρ w O cv) → (∀ k b, lk ro k = some b → b.ok ρ w O k) →
      ∃ (cv : Value) (m : Nat) (cells : Array Value) (t : TypeId) (fr : Nat × Nat), (execOp a.eval o).run C.P w = .ok (.value cv) (({ w with drawn := m } : World).alloc (.cells cells t fr)) ∧
        (∀ (w' : World), w'.heap[w.heap.size]? = some (.cells cells t fr) → ¬ O w.heap.size → (∀ xs vs, AV.simL ρ w O xs vs → AV.simL ρ w' O xs vs) → v.sim ρ w' O cv))
    (bd : ∀ S : Nat → Prop, (∀ t av, (t, av) ∈ pre → av.inS S) → (∀ k b, (k, b) ∈ ro → S k ∧ b.inS S) → v.inS S) :
    OpC C ⟨N, E, H⟩ o ⟨o, false, pre, ro, [], [], v⟩ ⟨N, (d, v) :: E, H⟩ := by
  have htri : Tri C.P C.F C.n o pre ro [] [] v := by
    refine Tri.of_value hC.fn hnd (fun X ρ w a hp hk hX hwr S s1 s2 s3 s4 => ?_) (fun S h1 h2 _ _ => ⟨bd S h1 h2, by simp⟩)
    rw [List.append_nil] at hp hk
    obtain ⟨cv, m, cells, t, fr, h1, h3⟩ := h ρ w _ a hp hk.ok
    have hnO : ¬ (X w.heap.size ∨ owned ρ (lk ro) w.heap.size) := by
      rintro (hx | hx)
      · have := hX _ hx; omega
      · have := owned_lt hk hx; omega
    have hwm : ∀ (x : Addr) (u : Value), ¬ (X x.block ∨ owned ρ (lk ro) x.block) → w.cell? x = some u → (({ w with drawn := m } : World).alloc (.cells cells t fr)).cell? x = some u ∧ ¬ (X x.block ∨ owned ρ (lk ro) x.block) :=
      fun x u hx hc => ⟨(fr_alloc w m _ (fun _ => False)).cell (fun h => h) hc, hx⟩
    refine ⟨cv, _, ρ, .inl h1, fun _ _ => rfl, fr_alloc w m _ _, ?_, fun b hb => .inl hb, ?_⟩
    · rw [List.append_nil]
      exact ⟨fun k b hb => Blk.ok_mono (w := w) (O := fun b => X b ∨ owned ρ (lk ro) b) hwm (S := S) (fun _ _ => rfl) (s2 k b (lk_mem hb)).1 (fun b' _ hlt => heap_alloc_old { w with drawn := m } _ hlt) b (s2 k b (lk_mem hb)).2 (hk.ok k b hb), hk.dist, hk.apart⟩
    · rw [List.append_nil]
      refine h3 _ (heap_alloc_new { w with drawn := m } _) hnO fun xs vs hs => ?_
      exact simL_mono (S := fun _ => True) hwm (fun _ _ => rfl) xs vs (inSL_true xs) hs
  exact { op := rfl, skip := rfl, tri := htri, pre := hpre, ro := hro, rd := by simp, dj := by simp [lk], new := by simp [lk], N := Nat.le_refl _,
          dst := fun t ht => by rw [ho] at ht; cases ht; exact ⟨blt_lt hd, blt_lt hd6⟩,
          E1 := fun t => by rw [ho]; exact setE_cons _ _ _ _, H1 := fun k => by simp [upd, lk] }
theorem oc_alloc {t : TypeId} {cs : List AV} (hC : C.Ok) (hz : zeroAV C.P t = some cs) (hd : Nat.blt d C.T = true) (hd6 : Nat.blt d 1000000 = true) :
    OpC C ⟨N, E, H⟩ ⟨some d, .alloc t, ty, ps, af, g⟩ ⟨⟨some d, .alloc t, ty, ps, af, g⟩, false, [], [], [], [(N, .blk t cs)], .p N 0⟩ ⟨N + 1, (d, .p N 0) :: E, (N, .blk t cs) :: H⟩ := by
  refine oc_new hC rfl hd hd6 (fun _ h => by cases h) (by simp) (by simp) (fun ρ w O a _ _ _ _ => ?_) (fun S _ _ => ?_) (fun S h => by simpa [AV.inS] using h)
  · obtain ⟨v, h1, h2⟩ := run_zeroAV hz w
    refine ⟨.pointer (some ⟨w.heap.size, 0, none⟩), w.drawn, v.cells, t, (0, 0), ?_, rfl, fun ρ' w' O' e hw' _ => ⟨⟨w.heap.size, v.cells, e, hw', cvals_sim h2⟩, ?_⟩⟩
    · simp only [execOp, Instr.alloc, Sem.run_bind, h1, Result.andThen_ok, newVar, newRow, run_newObj, Sem.run_pure]; rfl
    · simp only [AV.sim]; exact ⟨w.heap.size, by rw [e]; rfl, rfl⟩
  · obtain ⟨v, h1, h2⟩ := run_zeroAV hz default
    exact cvals_bd h2
theorem oc_box {t : TypeId} {x : Operand} {v : AV} {p : List (Nat × AV)} (hC : C.Ok) (hx : OpV E x v p) (hf : v.flat = true) (hd : Nat.blt d C.T = true) (hd6 : Nat.blt d 1000000 = true) :
    OpC C ⟨N, E, H⟩ ⟨some d, .box t x, ty, ps, af, g⟩ ⟨⟨some d, .box t x, ty, ps, af, g⟩, false, p, [], [], [(N, .blk t v.cells)], .p N 0⟩ ⟨N + 1, (d, .p N 0) :: E, (N, .blk t v.cells) :: H⟩ := by
  refine oc_new hC rfl hd hd6 (fun _ h => by cases h) hx.pre (by simp) (fun ρ w O a hp _ s1 _ => ?_) (fun S h1 _ => AV.inSL_cells (hx.bd h1)) (fun S h => by simpa [AV.inS] using h)
  have h1 := sim_cells hf (hx.sim hp)
  refine ⟨.pointer (some ⟨w.heap.size, 0, none⟩), w.drawn, (a.eval x).cells, t, (0, 0), ?_, rfl, fun ρ' w' O' e hw' hm => ⟨⟨w.heap.size, _, e, hw', hm _ _ (AV.inSL_cells (hx.bd s1)) h1⟩, ?_⟩⟩
  · simp only [execOp, Instr.box, Sem.run_bind, Result.andThen_ok, newVar, newRow, run_newObj, Sem.run_pure]; rfl
  · simp only [AV.sim]; exact ⟨w.heap.size, by rw [e]; rfl, rfl⟩
theorem run_cellsOf {P : Program} {e : TypeId} {i : TypeInfo} (hi : P.info? e = some i) : P.cellsOf e = i.size := by simp [Program.cellsOf, hi]
theorem placesOf_array {P : Program} {t e : TypeId} {n : Nat} (h : P.underlying t = some (.array n e)) : placesOf P t = fun i => some (i * P.cellsOf e, P.cellsOf e) := by
  funext i; simp [placesOf, h]
theorem run_listMapM {P : Program} {α β : Type} {f : α → Sem β} {h : α → β} {w : World} : ∀ (l : List α), (∀ x ∈ l, (f x).run P w = .ok (h x) w) → (l.mapM f).run P w = .ok (l.map h) w
  | [], _ => by simp
  | x :: l, hx => by
    rw [List.mapM_cons]
    simp only [Sem.run_bind, hx x (by simp), Result.andThen_ok, run_listMapM l (fun y hy => hx y (by simp [hy])), Sem.run_pure, List.map_cons]
def bldOK (P : Program) (t : TypeId) : Bool :=
  match P.underlying t with
  | some (.struct fs) => fs.toList.all fun f => (P.info? f.type).isSome
  | some (.array _ e) => (P.info? e).isSome
  | _ => false
theorem run_build {P : Program} {t : TypeId} (h : bldOK P t = true) (w : World) (z : Value) (hz : (zeroValue t).run P w = .ok z w) (parts : Array (Nat × Value)) (r : Array Value)
    (hf : Instr.fill (placesOf P t) z.cells parts.toList = some r) : (Instr.build t parts).run P w = .ok (.agg r) w := by
  unfold bldOK at h
  unfold Instr.build
  simp only [Sem.run_bind, hz, Result.andThen_ok]
  split at h
  · rename_i fs hu
    simp only [run_underlying hu, Result.andThen_ok, Sem.run_bind]
    have hm : (fs.mapM (m := Sem) fun f => do pure (f.offset, ← sizeOf f.type)).run P w = .ok (fs.map fun f => (f.offset, P.cellsOf f.type)) w := by
      rw [Array.mapM_eq_mapM_toList]
      simp only [Sem.run_map]
      rw [run_listMapM (h := fun f => (f.offset, P.cellsOf f.type)) fs.toList]
      · simp only [Result.andThen_ok]
        congr 1
        apply Array.ext'
        simp
      · intro f hf'
        obtain ⟨i, hi⟩ := Option.isSome_iff_exists.1 (List.all_eq_true.1 h f hf')
        simp [run_size hi rfl, run_cellsOf hi]
    rw [hm]
    simp only [Result.andThen_ok]
    have hp : (fun i => (fs.map fun f => (f.offset, P.cellsOf f.type))[i]?) = placesOf P t := by
      funext i; simp [placesOf, hu]
    rw [hp, hf]; rfl
  · rename_i n e hu
    obtain ⟨i, hi⟩ := Option.isSome_iff_exists.1 h
    simp only [run_underlying hu, Result.andThen_ok, Sem.run_bind, run_size hi rfl]
    have hp : (fun j => some (j * i.size, i.size)) = placesOf P t := by
      funext j; simp [placesOf, hu, run_cellsOf hi]
    rw [hp, hf]; rfl
  · cases h
theorem map_fst_eval (a : Act) (ps : List (Nat × Operand)) : (ps.map fun (i, x) => (i, a.eval x)).map (·.1) = ps.map (·.1) := by simp [List.map_map, Function.comp_def]
theorem map_snd_eval (a : Act) (ps : List (Nat × Operand)) : (ps.map fun (i, x) => (i, a.eval x)).map (·.2) = (ps.map (·.2)).map a.eval := by simp [List.map_map, Function.comp_def]
theorem zip_fst {ks : List Nat} {vs : List AV} (h : ks.length = vs.length) : (ks.zip vs).map (·.1) = ks := by rw [List.map_fst_zip]; omega
theorem zip_snd {ks : List Nat} {vs : List AV} (h : ks.length = vs.length) : (ks.zip vs).map (·.2) = vs := by rw [List.map_snd_zip]; omega
theorem OpVL.length {E : List (Nat × AV)} {xs : List Operand} {vs : List AV} {p : List (Nat × AV)} (h : OpVL E xs vs p) : vs.length = xs.length := by
  induction h with
  | nil => rfl
  | cons h t ih => simp [ih]
theorem oc_build {t : TypeId} {parts : Array (Nat × Operand)} {vs zs out : List AV} {p : List (Nat × AV)} (hC : C.Ok) (hx : OpVL E (parts.toList.map (·.2)) vs p) (hz : zeroAV C.P t = some zs)
    (hs : bldOK C.P t = true) (hf : fillAV (placesOf C.P t) zs ((parts.toList.map (·.1)).zip vs) = some out) (hd : Nat.blt d C.T = true) (hd6 : Nat.blt d 1000000 = true) :
    OpC C ⟨N, E, H⟩ ⟨some d, .build t parts, ty, ps, af, g⟩ ⟨⟨some d, .build t parts, ty, ps, af, g⟩, false, p, [], [], [], .ag out⟩ ⟨N, (d, .ag out) :: E, H⟩ := by
  have hl : (parts.toList.map (·.1)).length = vs.length := by rw [hx.length]; simp
  refine oc_pure hC rfl hd hd6 (fun _ h => by cases h) hx.pre (by simp) (fun ρ w O a hp _ => ?_) (fun S h1 _ => ?_)
  · obtain ⟨z, h1, h2⟩ := run_zeroAV hz w
    obtain ⟨r, h3, h4⟩ := fill_sim (ρ := ρ) (w := w) (O := O) ((parts.toList.map (·.1)).zip vs) (parts.toList.map fun (i, x) => (i, a.eval x)) zs z.cells out hf
      (by rw [zip_fst hl, map_fst_eval]) (by rw [zip_snd hl, map_snd_eval]; exact hx.sim hp) (cvals_sim h2)
    refine ⟨.agg r, ?_, by simp only [AV.sim]; exact ⟨r.toList, by simp, h4⟩⟩
    have := run_build hs w z h1 (parts.map fun (i, x) => (i, a.eval x)) r (by simpa using h3)
    simp only [execOp, Sem.run_bind, this, Result.andThen_ok, Sem.run_pure]
  · have h2 := hx.bd h1
    obtain ⟨z, _, h3⟩ := run_zeroAV hz default
    simp only [AV.inS]
    exact fill_bd _ _ _ hf (by rw [zip_snd hl]; exact h2) (cvals_bd h3)
def zerosAV (zs : List AV) (n : Nat) : List AV := (List.range n).map fun i => zs.getD (i % zs.length) .un
theorem run_buildSlice {P : Program} {t e : TypeId} {i : TypeInfo} {z : Value} (hu : P.underlying t = some (.slice e)) (hi : P.info? e = some i) (w : World) (hz : (zeroValue e).run P w = .ok z w) (n : Nat) (parts : Array (Nat × Value)) (r : Array Value)
    (hn : n * i.size ≤ 2 ^ 24) (hf : Instr.fill (fun j => some (j * i.size, i.size)) ((Array.range (n * i.size)).map ((if n * i.size = 0 then #[] else z.cells)[· % (if n * i.size = 0 then #[] else z.cells).size]!)) parts.toList = some r) :
    (Instr.buildSlice t n parts).run P w = .ok (.slice (some ⟨w.heap.size, 0, none⟩) n n) (w.alloc (.cells r e)) := by
  unfold Instr.buildSlice
  have h1 : ¬ (n * i.size > 2 ^ 24) := by omega
  simp only [Sem.run_bind, run_underlying hu, Result.andThen_ok, run_size hi rfl, if_neg h1]
  by_cases h0 : n * i.size = 0
  · simp only [h0, if_true, Sem.run_bind, Sem.run_pure, Result.andThen_ok] at hf ⊢
    rw [hf]; rfl
  · simp only [if_neg h0, Sem.run_bind, hz, Sem.run_pure, Result.andThen_ok] at hf ⊢
    rw [hf]; rfl
theorem zeros_sim {ρ : Nat → Value} {w : World} {O : Nat → Prop} {zs : List AV} {us : Array Value} (h : AV.simL ρ w O zs us.toList) (n : Nat) (hn : n = 0 ∨ 0 < zs.length) :
    AV.simL ρ w O (zerosAV zs n) ((Array.range n).map (us[· % us.size]!)).toList := by
  have hl := simL_length h
  refine simL_of_get (by simp [zerosAV]) fun j x v hx hv => ?_
  simp only [zerosAV, List.getElem?_map, Option.map_eq_some_iff] at hx
  obtain ⟨k, hk, rfl⟩ := hx
  have hj : j < n ∧ k = j := by
    have := List.getElem?_eq_some_iff.1 hk
    obtain ⟨h1, h2⟩ := this
    simp at h1 h2
    exact ⟨h1, h2.symm⟩
  obtain ⟨hj, rfl⟩ := hj
  have hz : 0 < zs.length := by omega
  simp [hj] at hv
  have hm : k % zs.length < zs.length := Nat.mod_lt _ hz
  obtain ⟨v', h1, h2⟩ := simL_get h (j := k % zs.length) (x := zs.getD (k % zs.length) .un) (by simp [hm])
  have hus : us.size = zs.length := by simpa using hl
  rw [hus] at hv
  have : us[k % zs.length]! = v' := by
    simp at h1
    have h3 := Array.getElem?_eq_some_iff.1 h1
    obtain ⟨h4, h5⟩ := h3
    simp [h4, h5]
  rw [← hv, this]; exact h2
theorem zeros_bd {S : Nat → Prop} {zs : List AV} (h : AV.inSL S zs) (n : Nat) : AV.inSL S (zerosAV zs n) := by
  rw [inSL_iff] at h ⊢
  intro x hx
  simp only [zerosAV, List.mem_map] at hx
  obtain ⟨k, _, rfl⟩ := hx
  rw [List.getD_eq_getElem?_getD]
  cases hc : zs[k % zs.length]? with
  | none => simp [AV.inS]
  | some y => simp; exact h y (List.mem_of_getElem? hc)
theorem buildSlice_sim {P : Program} {t e : TypeId} {sz : Nat} {zs out : List AV} {vs : List AV} {parts : Array (Nat × Operand)} {n : Nat} (hu : P.underlying t = some (.slice e)) (hsz : P.cellsOf e = sz) (hz : zeroAV P e = some zs) (hzl : 0 < zs.length)
    (hn : n * sz ≤ 2 ^ 24) (hf : fillAV (fun j => some (j * sz, sz)) (zerosAV zs (n * sz)) ((parts.toList.map (·.1)).zip vs) = some out) (hl : (parts.toList.map (·.1)).length = vs.length)
    {ρ : Nat → Value} {w : World} {O : Nat → Prop} {a : Act} (hs : AV.simL ρ w O vs ((parts.toList.map (·.2)).map a.eval)) :
    ∃ r : Array Value, (Instr.buildSlice t n (parts.map fun (i, x) => (i, a.eval x))).run P w = .ok (.slice (some ⟨w.heap.size, 0, none⟩) n n) (w.alloc (.cells r e)) ∧ AV.simL ρ w O out r.toList := by
  obtain ⟨z, h1, h2⟩ := run_zeroAV hz w
  have hi : ∃ i, P.info? e = some i := by
    unfold zeroAV at hz
    split at hz
    · rename_i i hi; exact ⟨i, hi⟩
    · cases hz
  obtain ⟨i, hi⟩ := hi
  have hsi : i.size = sz := by rw [← run_cellsOf hi]; exact hsz
  have hzs := cvals_sim (ρ := ρ) (w := w) (O := O) h2
  obtain ⟨r, h3, h4⟩ := fill_sim (ρ := ρ) (w := w) (O := O) ((parts.toList.map (·.1)).zip vs) (parts.toList.map fun (i, x) => (i, a.eval x)) (zerosAV zs (n * sz))
    ((Array.range (n * sz)).map ((if n * sz = 0 then #[] else z.cells)[· % (if n * sz = 0 then #[] else z.cells).size]!)) out hf (by rw [zip_fst hl, map_fst_eval]) (by rw [zip_snd hl, map_snd_eval]; exact hs) (by
      by_cases h0 : n * sz = 0
      · simp [h0, zerosAV, AV.simL]
      · simp only [if_neg h0]; exact zeros_sim hzs _ (.inr hzl))
  exact ⟨r, run_buildSlice hu hi w h1 n _ r (by rw [hsi]; exact hn) (by rw [hsi]; simpa using h3), h4⟩
theorem oc_lit {t e : TypeId} {n sz : Nat} {parts : Array (Nat × Operand)} {vs zs out : List AV} {p : List (Nat × AV)} (hC : C.Ok) (hx : OpVL E (parts.toList.map (·.2)) vs p) (hu : C.P.underlying t = some (.slice e)) (hsz : C.P.cellsOf e = sz)
    (hz : zeroAV C.P e = some zs) (hzl : 0 < zs.length) (hn : n * sz ≤ 2 ^ 24) (hf : fillAV (fun j => some (j * sz, sz)) (zerosAV zs (n * sz)) ((parts.toList.map (·.1)).zip vs) = some out)
    (hd : Nat.blt d C.T = true) (hd6 : Nat.blt d 1000000 = true) :
    OpC C ⟨N, E, H⟩ ⟨some d, .buildSlice t n parts, ty, ps, af, g⟩ ⟨⟨some d, .buildSlice t n parts, ty, ps, af, g⟩, false, p, [], [], [], .vs n out⟩ ⟨N, (d, .vs n out) :: E, H⟩ := by
  have hl : (parts.toList.map (·.1)).length = vs.length := by rw [hx.length]; simp
  refine oc_newV hC rfl hd hd6 (fun _ h => by cases h) hx.pre (by simp) (fun ρ w O a hp _ => ?_) (fun S h1 _ => ?_)
  · obtain ⟨r, h1, h2⟩ := buildSlice_sim hu hsz hz hzl hn hf hl (hx.sim hp)
    refine ⟨.slice (some ⟨w.heap.size, 0, none⟩) n n, w.drawn, r, e, (0, 0), by simp only [execOp, Sem.run_bind, h1, Result.andThen_ok, Sem.run_pure], fun w' hw' hO hm => ?_⟩
    simp only [AV.sim]
    exact ⟨_, _, r.toList, rfl, Nat.le_refl _, fun _ => ⟨_, rfl, hO, fun j cv hj => by rw [add_none, Nat.zero_add, cell_of_row w' w.heap.size j r e (0, 0) hw']; simpa using hj⟩, hm _ _ h2⟩
  · simp only [AV.inS]
    obtain ⟨z, _, h3⟩ := run_zeroAV hz default
    exact fill_bd _ _ _ hf (by rw [zip_snd hl]; exact hx.bd h1) (zeros_bd (cvals_bd h3) _)
theorem fillAV_length {place : Nat → Option (Nat × Nat)} : ∀ (ps : List (Nat × AV)) (cs out : List AV), fillAV place cs ps = some out → out.length = cs.length
  | [], cs, out, h => by simp [fillAV] at h; subst h; rfl
  | (i, x) :: ps, cs, out, h => by
    unfold fillAV at h
    split at h
    · cases h
    · split at h
      · rw [fillAV_length ps _ out h]
        have : ∀ (xs : List AV) (m off : Nat) (cs : List AV), ((xs.zipIdx m).foldl (fun cs (c, j) => cs.set (off + j) c) cs).length = cs.length := by
          intro xs
          induction xs with
          | nil => intros; rfl
          | cons y ys ih => intro m off cs; simp only [List.zipIdx_cons, List.foldl_cons]; rw [ih]; simp
        exact this _ _ _ _
      · cases h
theorem oc_litR {t e : TypeId} {n sz : Nat} {parts : Array (Nat × Operand)} {vs zs out : List AV} {p : List (Nat × AV)} (hC : C.Ok) (hx : OpVL E (parts.toList.map (·.2)) vs p) (hu : C.P.underlying t = some (.slice e)) (hsz : C.P.cellsOf e = sz)
    (hz : zeroAV C.P e = some zs) (hzl : 0 < zs.length) (hn : n * sz ≤ 2 ^ 24) (hn2 : n ≤ maxLen) (hf : fillAV (fun j => some (j * sz, sz)) (zerosAV zs (n * sz)) ((parts.toList.map (·.1)).zip vs) = some out)
    (hd : Nat.blt d C.T = true) (hd6 : Nat.blt d 1000000 = true) :
    OpC C ⟨N, E, H⟩ ⟨some d, .buildSlice t n parts, ty, ps, af, g⟩ ⟨⟨some d, .buildSlice t n parts, ty, ps, af, g⟩, false, p, [], [], [(N, .row e sz n out)], .row N⟩ ⟨N + 1, (d, .row N) :: E, (N, .row e sz n out) :: H⟩ := by
  have hl : (parts.toList.map (·.1)).length = vs.length := by rw [hx.length]; simp
  have hol : out.length = n * sz := by rw [fillAV_length _ _ _ hf]; simp [zerosAV]
  refine oc_new hC rfl hd hd6 (fun _ h => by cases h) hx.pre (by simp) (fun ρ w O a hp _ s1 _ => ?_) (fun S h1 _ => ?_) (fun S h => by simpa [AV.inS] using h)
  · obtain ⟨r, h1, h2⟩ := buildSlice_sim hu hsz hz hzl hn hf hl (hx.sim hp)
    have hr := simL_length h2
    simp only [Array.length_toList] at hr
    obtain ⟨z, _, h3⟩ := run_zeroAV hz default
    refine ⟨.slice (some ⟨w.heap.size, 0, none⟩) n n, w.drawn, r, e, (0, 0), by simp only [execOp, Sem.run_bind, h1, Result.andThen_ok, Sem.run_pure], rfl, fun ρ' w' O' e' hw' hm => ⟨⟨hol, .inr ⟨w.heap.size, n, r, 0, 0, e', hw', Nat.le_refl _, hn2, by omega, .inr rfl, ?_⟩⟩, ?_⟩⟩
    · rw [List.take_of_length_le (by simp; omega)]
      exact hm _ _ (fill_bd _ _ _ hf (by rw [zip_snd hl]; exact hx.bd s1) (zeros_bd (cvals_bd h3) _)) h2
    · simp only [AV.sim]; exact ⟨e'.symm, _, _, _, rfl⟩
  · obtain ⟨z, _, h3⟩ := run_zeroAV hz default
    exact fill_bd _ _ _ hf (by rw [zip_snd hl]; exact hx.bd h1) (zeros_bd (cvals_bd h3) _)
theorem run_makeSlice' {P : Program} {t e : TypeId} {i : TypeInfo} {z : Value} (hu : P.underlying t = some (.slice e)) (hi : P.info? e = some i) (w : World) (hz : (zeroValue e).run P w = .ok z w) (k k' : IntKind) (n : Nat)
    (hn : n ≤ 9223372036854775807) (hb : i.bytes * n ≤ 2 ^ 48) :
    (Instr.makeSlice t (.int k n) (.int k' n)).run P w = .ok (.slice (some ⟨w.heap.size, 0, none⟩) n n) (w.alloc (.cells ((Array.range (n * i.size)).map ((if n * i.size = 0 then #[] else z.cells)[· % (if n * i.size = 0 then #[] else z.cells).size]!)) e)) := by
  have hw : IntKind.i64.wrap (n : Int) = n := IntWalk.i64_in _ (by omega)
  have h1 : ¬ ((n : Int) < 0) := by omega
  have h2 : ¬ ((i.bytes : Int) * (n : Int) > 2 ^ 48) := by
    have : ((i.bytes * n : Nat) : Int) ≤ ((2 ^ 48 : Nat) : Int) := Int.ofNat_le.2 hb
    simp only [Int.natCast_mul] at this
    omega
  unfold Instr.makeSlice
  have htn : ((n : Int)).toNat = n := Int.toNat_natCast n
  by_cases h0 : n * i.size = 0
  · simp [run_underlying hu, asInt, asIntOf, typeInfo, hi, hw, run_size hi rfl, h0, newRow]
    intro h; exfalso; omega
  · simp [run_underlying hu, asInt, asIntOf, typeInfo, hi, hw, run_size hi rfl, h0, newRow, hz]
    intro h; exfalso; omega
theorem oc_make {t e : TypeId} {x y : Operand} {sz n : Nat} {k k' : IntKind} {a b : Int} {zs : List AV} {p q : List (Nat × AV)} {by_ : Nat} (hC : C.Ok) (hx : OpV E x (.i k a) p) (hy : OpV E y (.i k' b) q) (ha : a = n) (hb : b = n)
    (hu : C.P.underlying t = some (.slice e)) (hsz : C.P.cellsOf e = sz) (hby : (C.P.info? e).map (·.bytes) = some by_) (hz : zeroAV C.P e = some zs) (hzl : 0 < zs.length) (hn : n ≤ maxLen) (hbn : by_ * n ≤ 2 ^ 48)
    (hd : Nat.blt d C.T = true) (hd6 : Nat.blt d 1000000 = true) :
    OpC C ⟨N, E, H⟩ ⟨some d, .makeSlice t x y, ty, ps, af, g⟩ ⟨⟨some d, .makeSlice t x y, ty, ps, af, g⟩, false, p ++ q, [], [], [(N, .row e sz n (zerosAV zs (n * sz)))], .row N⟩ ⟨N + 1, (d, .row N) :: E, (N, .row e sz n (zerosAV zs (n * sz))) :: H⟩ := by
  refine oc_new hC rfl hd hd6 (fun _ h => by cases h) (fun t av hm => ?_) (by simp) (fun ρ w O a' hp _ s1 _ => ?_) (fun S h1 _ => ?_) (fun S h => by simpa [AV.inS] using h)
  · rcases List.mem_append.1 hm with h | h
    · exact hx.pre t av h
    · exact hy.pre t av h
  · have h1 := hx.sim (fun t v hm => hp t v (List.mem_append_left _ hm))
    have h2 := hy.sim (fun t v hm => hp t v (List.mem_append_right _ hm))
    simp only [AV.sim] at h1 h2
    subst ha hb
    obtain ⟨i, hi, hby⟩ := Option.map_eq_some_iff.1 hby
    have hsi : i.size = sz := by rw [← run_cellsOf hi]; exact hsz
    obtain ⟨z, h3, h4⟩ := run_zeroAV hz w
    have hzs := cvals_sim (ρ := ρ) (w := w) (O := O) h4
    have hr := run_makeSlice' hu hi w h3 k k' n (by simpa [maxLen] using hn) (by rw [hby]; exact hbn)
    have hsim : AV.simL ρ w O (zerosAV zs (n * sz)) ((Array.range (n * i.size)).map ((if n * i.size = 0 then #[] else z.cells)[· % (if n * i.size = 0 then #[] else z.cells).size]!)).toList := by
      rw [hsi]
      by_cases h0 : n * sz = 0
      · simp [h0, zerosAV, AV.simL]
      · simp only [if_neg h0]; exact zeros_sim hzs _ (.inr hzl)
    refine ⟨.slice (some ⟨w.heap.size, 0, none⟩) n n, w.drawn, _, e, (0, 0), by simp only [execOp, h1, h2, Sem.run_bind, hr, Result.andThen_ok, Sem.run_pure]; rfl, rfl,
      fun ρ' w' O' e' hw' hm => ⟨⟨by simp [zerosAV], .inr ⟨w.heap.size, n, _, 0, 0, e', hw', Nat.le_refl _, hn, by simp [hsi], .inr rfl, ?_⟩⟩, ?_⟩⟩
    · rw [List.take_of_length_le (by simp [hsi])]
      exact hm _ _ (zeros_bd (cvals_bd h4) _) hsim
    · simp only [AV.sim]; exact ⟨e'.symm, _, _, _, rfl⟩
  · obtain ⟨z, _, h3⟩ := run_zeroAV hz default
    exact zeros_bd (cvals_bd h3) _
end
end Go.Sk
