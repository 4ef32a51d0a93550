/- Own work: a calculus for walks through the program, and plain laws: S03, S03b, Fw17, Fw18, S03c, Fw19, Fw20, S04, Fw21, Fw22, Fw23, Fw24 -/
import Derived.Test.YtfngpppghlbanaaDoorC
import Derived.ProofKit
import Derived.OpenShut
import Derived.LaidMore
import Derived.MakeChecks
import Derived.Laws.IdiomCopy
import Derived.DeepKeys
import Derived.Laws.StructEq
import GoSem.ClaimSeven
import Derived.Laws.Cover3
namespace Go.Sk
abbrev xr (a b : Int) : Int := binI .xor .u32 a b
abbrev an (a b : Int) : Int := binI .and .u32 a b
def ror (x : Int) (n : Nat) : Int := x / 2 ^ n + x % 2 ^ n * 2 ^ (32 - n)
def W32 (l : List Int) : Prop := ∀ x ∈ l, 0 ≤ x ∧ x < 4294967296
def B8 (l : List Int) : Prop := ∀ x ∈ l, 0 ≤ x ∧ x < 256
theorem getD_all {P : Int → Prop} {l : List Int} (h : ∀ x ∈ l, P x) (h0 : P 0) (i : Nat) : P (l.getD i 0) := by
  rw [List.getD_eq_getElem?_getD]
  cases hc : l[i]? with
  | none => exact h0
  | some x => exact h x (List.mem_of_getElem? hc)
theorem W32.get {l : List Int} (h : W32 l) (i : Nat) : 0 ≤ l.getD i 0 ∧ l.getD i 0 < 4294967296 := getD_all (P := fun x => 0 ≤ x ∧ x < 4294967296) h (by decide) i
theorem B8.get {l : List Int} (h : B8 l) (i : Nat) : 0 ≤ l.getD i 0 ∧ l.getD i 0 < 256 := getD_all (P := fun x => 0 ≤ x ∧ x < 256) h (by decide) i
theorem u32_range (n : Int) : 0 ≤ IntKind.u32.wrap n ∧ IntKind.u32.wrap n < 4294967296 := by rw [u32_wrap]; omega
theorem xr_range (a b : Int) : 0 ≤ xr a b ∧ xr a b < 4294967296 := u32_range _
theorem an_range (a b : Int) : 0 ≤ an a b ∧ an a b < 4294967296 := u32_range _
theorem bin_nat (op : BinOp) (f : Nat → Nat → Nat) (hop : (op = .xor ∧ f = Nat.xor) ∨ (op = .and ∧ f = Nat.land) ∨ (op = .or ∧ f = Nat.lor)) {a b : Nat} (ha : a < 4294967296) (hb : b < 4294967296) :
    binI op .u32 (a : Int) (b : Int) = (f a b : Int) := by
  have e1 : (BitVec.ofInt 32 (a : Int)).toNat = a := by simp; omega
  have e2 : (BitVec.ofInt 32 (b : Int)).toNat = b := by simp; omega
  rcases hop with ⟨rfl, rfl⟩ | ⟨rfl, rfl⟩ | ⟨rfl, rfl⟩
  · show IntKind.u32.wrap (BitVec.ofInt 32 (a : Int) ^^^ BitVec.ofInt 32 (b : Int)).toNat = _
    rw [BitVec.toNat_xor, e1, e2, u32_wrap]
    have : a ^^^ b < 2 ^ 32 := Nat.xor_lt_two_pow ha hb
    show ((a ^^^ b : Nat) : Int) % _ = ((a ^^^ b : Nat) : Int)
    omega
  · show IntKind.u32.wrap (BitVec.ofInt 32 (a : Int) &&& BitVec.ofInt 32 (b : Int)).toNat = _
    rw [BitVec.toNat_and, e1, e2, u32_wrap]
    have : a &&& b < 2 ^ 32 := Nat.and_lt_two_pow a hb
    show ((a &&& b : Nat) : Int) % _ = ((a &&& b : Nat) : Int)
    omega
  · show IntKind.u32.wrap (BitVec.ofInt 32 (a : Int) ||| BitVec.ofInt 32 (b : Int)).toNat = _
    rw [BitVec.toNat_or, e1, e2, u32_wrap]
    have : a ||| b < 2 ^ 32 := Nat.or_lt_two_pow ha hb
    show ((a ||| b : Nat) : Int) % _ = ((a ||| b : Nat) : Int)
    omega
theorem or_nat {a b : Nat} (ha : a < 4294967296) (hb : b < 4294967296) : binI .or .u32 a b = ((a ||| b : Nat) : Int) := bin_nat .or Nat.lor (.inr (.inr ⟨rfl, rfl⟩)) ha hb
theorem or_add {a b : Int} {n : Nat} (hn : n ≤ 32) (ha : 0 ≤ a) (ha2 : a * 2 ^ n < 4294967296) (hb : 0 ≤ b) (hb2 : b < 2 ^ n) : binI .or .u32 (a * 2 ^ n) b = a * 2 ^ n + b := by
  obtain ⟨x, rfl⟩ := Int.eq_ofNat_of_zero_le ha
  obtain ⟨y, rfl⟩ := Int.eq_ofNat_of_zero_le hb
  have h1 : x * 2 ^ n < 4294967296 := Int.ofNat_lt.1 (by rw [Int.natCast_mul, Int.natCast_pow]; exact ha2)
  have h2 : y < 2 ^ n := Int.ofNat_lt.1 (by rw [Int.natCast_pow]; exact hb2)
  have h3 : y < 4294967296 := Nat.lt_of_lt_of_le h2 (Nat.pow_le_pow_right (by decide) hn)
  have := or_nat h1 h3
  have e : x * 2 ^ n ||| y = x * 2 ^ n + y := by
    rw [← Nat.shiftLeft_eq, ← Nat.shiftLeft_add_eq_or_of_lt h2]
  rw [e, Int.natCast_add, Int.natCast_mul, Int.natCast_pow] at this
  exact this
theorem ror_range {x : Int} {n : Nat} (hx : 0 ≤ x ∧ x < 4294967296) (hn : n ≤ 32) : 0 ≤ ror x n ∧ ror x n < 4294967296 := by
  unfold ror
  have hp : (0 : Int) < 2 ^ n := Int.pow_pos (by decide)
  have hq : (0 : Int) < 2 ^ (32 - n) := Int.pow_pos (by decide)
  have hpq : (2 : Int) ^ n * 2 ^ (32 - n) = 4294967296 := by
    rw [← Int.pow_add, show n + (32 - n) = 32 by omega]; rfl
  have h1 : 0 ≤ x / 2 ^ n := Int.ediv_nonneg hx.1 (Int.le_of_lt hp)
  have h2 : 0 ≤ x % 2 ^ n := Int.emod_nonneg _ (by omega)
  have h3 : x % 2 ^ n < 2 ^ n := Int.emod_lt_of_pos _ hp
  have h4 : x / 2 ^ n < 2 ^ (32 - n) := by
    rw [Int.ediv_lt_iff_lt_mul hp, Int.mul_comm, hpq]; exact hx.2
  have h5 : x % 2 ^ n * 2 ^ (32 - n) ≤ (2 ^ n - 1) * 2 ^ (32 - n) := Int.mul_le_mul_of_nonneg_right (by omega) (Int.le_of_lt hq)
  rw [Int.sub_mul, hpq] at h5
  have h6 : 0 ≤ x % 2 ^ n * 2 ^ (32 - n) := Int.mul_nonneg h2 (Int.le_of_lt hq)
  omega
theorem ror_succ {x : Int} {n : Nat} (_hx : 0 ≤ x ∧ x < 4294967296) (hn : n < 32) : ror x n / 2 + ror x n % 2 * 2147483648 = ror x (n + 1) := by
  unfold ror
  have hp : (0 : Int) < 2 ^ n := Int.pow_pos (by decide)
  have e1 : (2 : Int) ^ (32 - n) = 2 * 2 ^ (32 - (n + 1)) := by
    rw [show 32 - n = (32 - (n + 1)) + 1 by omega, Int.pow_succ, Int.mul_comm]
  have e2 : (2 : Int) ^ (n + 1) = 2 ^ n * 2 := Int.pow_succ ..
  have e3 : x / 2 ^ (n + 1) = x / 2 ^ n / 2 := by rw [e2, Int.ediv_ediv_of_nonneg (Int.le_of_lt hp)]
  have e4 : x % 2 ^ (n + 1) = x % 2 ^ n + 2 ^ n * (x / 2 ^ n % 2) := by
    have h1 := Int.emod_add_mul_ediv x (2 ^ n)
    have h2 := Int.emod_add_mul_ediv x (2 ^ (n + 1))
    rw [e3, e2] at h2
    have h3 := Int.emod_add_mul_ediv (x / 2 ^ n) 2
    rw [e2]
    generalize x / 2 ^ n / 2 = q at *
    generalize x / 2 ^ n % 2 = r at *
    generalize x / 2 ^ n = y at *
    generalize hpp : (2 : Int) ^ n = p at *
    rw [← h3] at h1
    have : p * 2 * q = p * (2 * q) := Int.mul_assoc ..
    have h4 : p * (r + 2 * q) = p * r + p * (2 * q) := Int.mul_add ..
    omega
  have e5 : (2 : Int) ^ n * 2 ^ (32 - (n + 1)) = 2147483648 := by
    rw [← Int.pow_add, show n + (32 - (n + 1)) = 31 by omega]; rfl
  rw [e3, e4, e1]
  generalize hz : (2 : Int) ^ (32 - (n + 1)) = z at *
  generalize x / 2 ^ n = y at *
  generalize x % 2 ^ n = m at *
  have h6 : m * (2 * z) = 2 * (m * z) := by rw [← Int.mul_assoc, Int.mul_comm m 2, Int.mul_assoc]
  have h7 : (m + 2 ^ n * (y % 2)) * z = m * z + y % 2 * 2147483648 := by
    rw [Int.add_mul, Int.mul_assoc, Int.mul_comm (y % 2) z, ← Int.mul_assoc, e5, Int.mul_comm 2147483648]
  rw [h6, h7]
  generalize m * z = v
  omega
theorem ror_zero {x : Int} : ror x 0 = x := by simp [ror, Int.emod_one]
abbrev bv (a : Int) : BitVec 32 := BitVec.ofInt 32 a
theorem bv_toNat (x : BitVec 32) : bv (x.toNat : Int) = x := by
  apply BitVec.eq_of_toNat_eq
  have := x.isLt
  simp
theorem wrap_toNat (x : BitVec 32) : IntKind.u32.wrap (x.toNat : Int) = x.toNat := by rw [u32_wrap]; have := x.isLt; omega
theorem an_bv (a b : Int) : an a b = ((bv a &&& bv b).toNat : Int) := wrap_toNat _
theorem xr_bv (a b : Int) : xr a b = ((bv a ^^^ bv b).toNat : Int) := wrap_toNat _
theorem or_bv (a b : Int) : binI .or .u32 a b = ((bv a ||| bv b).toNat : Int) := wrap_toNat _
theorem not_bv (e : Int) : unI .xor .u32 e = ((~~~ bv e).toNat : Int) := by
  show IntKind.u32.wrap (BitVec.ofInt 32 (if IntKind.u32.signed then -1 else IntKind.u32.max) ^^^ BitVec.ofInt 32 e).toNat = _
  have h : (BitVec.ofInt 32 (if IntKind.u32.signed then -1 else IntKind.u32.max)) = BitVec.allOnes 32 := by decide
  rw [h, BitVec.allOnes_xor]
  exact wrap_toNat _
theorem bv_not {e : Int} (he : 0 ≤ e ∧ e < 4294967296) : bv (4294967295 - e) = ~~~ bv e := by
  apply BitVec.eq_of_toNat_eq
  rw [BitVec.toNat_not]
  simp only [bv, BitVec.toNat_ofInt]
  omega
theorem ch_eq {e f g : Int} (he : 0 ≤ e ∧ e < 4294967296) : binI .or .u32 (an e f) (an (unI .xor .u32 e) g) = xr (an e f) (an (4294967295 - e) g) := by
  rw [or_bv, xr_bv, an_bv, an_bv, an_bv, not_bv, bv_toNat, bv_toNat, bv_toNat, bv_toNat, bv_not he]
  congr 2
  ext i
  simp only [BitVec.getElem_or, BitVec.getElem_and, BitVec.getElem_not, BitVec.getElem_xor]
  cases (bv e)[i] <;> simp
theorem xr_conv {a b : Int} : xr (IntKind.u32.wrap a) (IntKind.u32.wrap b) = xr a b := by
  rw [xr_bv, xr_bv]
  have h : ∀ a : Int, bv (IntKind.u32.wrap a) = bv a := by
    intro a
    apply BitVec.eq_of_toNat_eq
    rw [u32_wrap]
    simp only [bv, BitVec.toNat_ofInt]
    omega
  rw [h, h]
theorem an_conv {a b : Int} : an (IntKind.u32.wrap a) (IntKind.u32.wrap b) = an a b := by
  rw [an_bv, an_bv]
  have h : ∀ a : Int, bv (IntKind.u32.wrap a) = bv a := by
    intro a
    apply BitVec.eq_of_toNat_eq
    rw [u32_wrap]
    simp only [bv, BitVec.toNat_ofInt]
    omega
  rw [h, h]
def rotS (k : Int) : Int := binI .and .u64 (IntKind.u64.wrap k) 31
def rotl32 (x k : Int) : Int := binI .or .u32 (binI .shl .u32 x (rotS k)) (binI .shr .u32 x (binI .sub .u64 32 (rotS k)))
theorem rotS_neg : ∀ n : _root_.Fin 32, n.val ≠ 0 → rotS (unI .neg .i64 (n.val : Int)) = 32 - (n.val : Int) ∧ binI .sub .u64 32 (rotS (unI .neg .i64 (n.val : Int))) = (n.val : Int) := by decide +kernel
theorem rotl_ror {x : Int} {n : Nat} (hx : 0 ≤ x ∧ x < 4294967296) (h0 : 0 < n) (hn : n < 32) : rotl32 x (unI .neg .i64 (n : Int)) = ror x n := by
  obtain ⟨h1, h2⟩ := rotS_neg ⟨n, hn⟩ (by simp; omega)
  simp only at h1 h2
  unfold rotl32
  rw [h2, h1, shl_n (n := 32 - n) (by omega) (by show 32 - n ≤ 32; omega), shr_n (n := n) rfl (by show n ≤ 32; omega), u32_wrap]
  have hp : (0 : Int) < 2 ^ n := Int.pow_pos (by decide)
  have hq : (0 : Int) < 2 ^ (32 - n) := Int.pow_pos (by decide)
  have hpq : (2 : Int) ^ n * 2 ^ (32 - n) = 4294967296 := by
    rw [← Int.pow_add, show n + (32 - n) = 32 by omega]; rfl
  have e : x * 2 ^ (32 - n) % 4294967296 = x % 2 ^ n * 2 ^ (32 - n) := by
    rw [← hpq, Int.mul_comm (2 ^ n) (2 ^ (32 - n)), Int.mul_comm x, Int.mul_emod_mul_of_pos _ _ hq, Int.mul_comm]
  have h3 : x % 2 ^ n < 2 ^ n := Int.emod_lt_of_pos _ hp
  have h4 : 0 ≤ x % 2 ^ n := Int.emod_nonneg _ (by omega)
  have h5 : x / 2 ^ n < 2 ^ (32 - n) := by
    rw [Int.ediv_lt_iff_lt_mul hp, Int.mul_comm, hpq]; exact hx.2
  have h6 : x % 2 ^ n * 2 ^ (32 - n) ≤ (2 ^ n - 1) * 2 ^ (32 - n) := Int.mul_le_mul_of_nonneg_right (by omega) (Int.le_of_lt hq)
  rw [Int.sub_mul, hpq] at h6
  rw [e, or_add (by omega) h4 (by omega) (Int.ediv_nonneg hx.1 (Int.le_of_lt hp)) h5]
  unfold ror
  omega
def word4 (b : List Int) (i : Nat) : Int := ((b.getD i 0 * 256 + b.getD (i + 1) 0) * 256 + b.getD (i + 2) 0) * 256 + b.getD (i + 3) 0
theorem word4_range {b : List Int} (hb : B8 b) (i : Nat) : 0 ≤ word4 b i ∧ word4 b i < 4294967296 := by
  have h0 := hb.get i; have h1 := hb.get (i + 1); have h2 := hb.get (i + 2); have h3 := hb.get (i + 3)
  unfold word4; omega
theorem word_or {a b c d : Int} (ha : 0 ≤ a ∧ a < 256) (hb : 0 ≤ b ∧ b < 256) (hc : 0 ≤ c ∧ c < 256) (hd : 0 ≤ d ∧ d < 256) :
    binI .or .u32 (binI .or .u32 (binI .or .u32 (IntKind.u32.wrap (a * 2 ^ 24)) (IntKind.u32.wrap (b * 2 ^ 16))) (IntKind.u32.wrap (c * 2 ^ 8))) d = ((a * 256 + b) * 256 + c) * 256 + d := by
  rw [u32_wrap, u32_wrap, u32_wrap, Int.emod_eq_of_lt (by omega) (by omega), Int.emod_eq_of_lt (by omega) (by omega), Int.emod_eq_of_lt (by omega) (by omega)]
  rw [or_add (a := a) (n := 24) (b := b * 2 ^ 16) (by decide) (by omega) (by omega) (by omega) (by omega)]
  rw [show a * 2 ^ 24 + b * 2 ^ 16 = (a * 256 + b) * 2 ^ 16 by omega]
  rw [or_add (n := 16) (b := c * 2 ^ 8) (by decide) (by omega) (by omega) (by omega) (by omega)]
  rw [show (a * 256 + b) * 2 ^ 16 + c * 2 ^ 8 = ((a * 256 + b) * 256 + c) * 2 ^ 8 by omega]
  rw [or_add (n := 8) (by decide) (by omega) (by omega) (by omega) (by omega)]
  omega
def start8 : List Int := [1779033703, 3144134277, 1013904242, 2773480762, 1359893119, 2600822924, 528734635, 1541459225]
def sig0 (x : Int) : Int := xr (xr (ror x 7) (ror x 18)) (x / 2 ^ 3)
def sig1 (x : Int) : Int := xr (xr (ror x 17) (ror x 19)) (x / 2 ^ 10)
def nextW (w : List Int) : Int := (w.getD (w.length - 16) 0 + sig0 (w.getD (w.length - 15) 0) + w.getD (w.length - 7) 0 + sig1 (w.getD (w.length - 2) 0)) % 4294967296
def sched : Nat → List Int → List Int
  | 0, w => w
  | n + 1, w => sched n w ++ [nextW (sched n w)]
def first16 (b : List Int) : List Int := (List.range 16).map fun i => word4 b (4 * i)
def wordsOf (b : List Int) : List Int := sched 48 (first16 b)
def bsig1 (e : Int) : Int := xr (xr (ror e 6) (ror e 11)) (ror e 25)
def bsig0 (a : Int) : Int := xr (xr (ror a 2) (ror a 13)) (ror a 22)
def chW (e f g : Int) : Int := xr (an e f) (an (4294967295 - e) g)
def majW (a b c : Int) : Int := xr (xr (an a b) (an a c)) (an b c)
def tW (k w : Int) (s : List Int) : Int := (s.getD 7 0 + bsig1 (s.getD 4 0) + chW (s.getD 4 0) (s.getD 5 0) (s.getD 6 0) + k + w) % 4294967296
def uW (s : List Int) : Int := (bsig0 (s.getD 0 0) + majW (s.getD 0 0) (s.getD 1 0) (s.getD 2 0)) % 4294967296
def rnd (k w : Int) (s : List Int) : List Int :=
  [(tW k w s + uW s) % 4294967296, s.getD 0 0, s.getD 1 0, s.getD 2 0, (s.getD 3 0 + tW k w s) % 4294967296, s.getD 4 0, s.getD 5 0, s.getD 6 0]
def rounds (ks ws : List Int) : Nat → List Int → List Int
  | 0, s => s
  | n + 1, s => rnd (ks.getD n 0) (ws.getD n 0) (rounds ks ws n s)
def addW (s r : List Int) : List Int := (List.range 8).map fun i => (r.getD i 0 + s.getD i 0) % 4294967296
def blockM (ks s b : List Int) : List Int := addW s (rounds ks (wordsOf b) 64 s)
theorem length_sched (w : List Int) : ∀ n, (sched n w).length = n + w.length
  | 0 => by simp [sched]
  | n + 1 => by simp [sched, length_sched w n]; omega
theorem length_first16 (b : List Int) : (first16 b).length = 16 := by simp [first16]
theorem length_words (b : List Int) : (wordsOf b).length = 64 := by simp [wordsOf, length_sched, length_first16]
theorem length_rounds (ks ws s : List Int) (h : s.length = 8) : ∀ n, (rounds ks ws n s).length = 8
  | 0 => h
  | n + 1 => by simp [rounds, rnd]
theorem length_block (ks s b : List Int) : (blockM ks s b).length = 8 := by simp [blockM, addW]
theorem W32_block (ks s b : List Int) : W32 (blockM ks s b) := by
  intro x hx
  simp only [blockM, addW, List.mem_map] at hx
  obtain ⟨i, _, rfl⟩ := hx
  omega
theorem W32_first16 {b : List Int} (hb : B8 b) : W32 (first16 b) := by
  intro x hx
  simp only [first16, List.mem_map] at hx
  obtain ⟨i, _, rfl⟩ := hx
  exact word4_range hb _
theorem W32_sched {w : List Int} (hw : W32 w) : ∀ n, W32 (sched n w)
  | 0 => hw
  | n + 1 => by
    intro x hx
    simp only [sched, List.mem_append, List.mem_singleton] at hx
    rcases hx with hx | rfl
    · exact W32_sched hw n x hx
    · unfold nextW; omega
theorem W32_words {b : List Int} (hb : B8 b) : W32 (wordsOf b) := W32_sched (W32_first16 hb) 48
theorem W32_rnd {k w : Int} {s : List Int} (hs : W32 s) : W32 (rnd k w s) := by
  intro x hx
  simp only [rnd, List.mem_cons, List.not_mem_nil, or_false] at hx
  rcases hx with rfl | rfl | rfl | rfl | rfl | rfl | rfl | rfl
  · omega
  · exact hs.get 0
  · exact hs.get 1
  · exact hs.get 2
  · omega
  · exact hs.get 4
  · exact hs.get 5
  · exact hs.get 6
theorem W32_rounds {ks ws s : List Int} (hs : W32 s) : ∀ n, W32 (rounds ks ws n s)
  | 0 => hs
  | n + 1 => W32_rnd (W32_rounds hs n)
theorem getD_app_left {l m : List Int} {i : Nat} (h : i < l.length) : (l ++ m).getD i 0 = l.getD i 0 := by
  simp only [List.getD_eq_getElem?_getD, List.getElem?_append_left h]
def wpre (b : List Int) (i : Nat) : List Int := ((List.range i).map fun j => word4 b (4 * j)) ++ List.replicate (64 - i) 0
theorem set_mid {l : List Int} {x v : Int} {m : List Int} {i : Nat} (h : l.length = i) : (l ++ x :: m).set i v = l ++ v :: m := by
  subst h; simp
theorem wpre_succ {b : List Int} {i : Nat} (hi : i < 64) : (wpre b i).set i (word4 b (4 * i)) = wpre b (i + 1) := by
  unfold wpre
  rw [show 64 - i = (64 - (i + 1)) + 1 by omega, List.replicate_succ, set_mid (by simp), List.range_succ, List.map_append, List.append_assoc]
  rfl
theorem length_wpre {b : List Int} {i : Nat} (hi : i ≤ 64) : (wpre b i).length = 64 := by simp [wpre]; omega
theorem word4_cut {b : List Int} {m n : Nat} (hn : 4 ≤ n) : word4 ((b.drop m).take n) 0 = word4 b m := by
  have h : ∀ j, j < 4 → ((b.drop m).take n).getD j 0 = b.getD (m + j) 0 := by
    intro j hj
    simp only [List.getD_eq_getElem?_getD, List.getElem?_take, List.getElem?_drop]
    rw [if_pos (by omega)]
  unfold word4
  rw [h 0 (by omega), h 1 (by omega), h 2 (by omega), h 3 (by omega)]; rfl
def spre (b : List Int) (j : Nat) : List Int := sched j (first16 b) ++ List.replicate (48 - j) 0
theorem length_spre {b : List Int} {j : Nat} (hj : j ≤ 48) : (spre b j).length = 64 := by simp [spre, length_sched, length_first16]; omega
theorem wpre_spre (b : List Int) : wpre b 16 = spre b 0 := rfl
theorem W32_spre {b : List Int} (hb : B8 b) (j : Nat) : W32 (spre b j) := by
  intro x hx
  simp only [spre, List.mem_append, List.mem_replicate] at hx
  rcases hx with hx | ⟨_, rfl⟩
  · exact W32_sched (W32_first16 hb) j x hx
  · decide
theorem spre_succ {b : List Int} {j : Nat} (hj : j < 48) :
    (spre b j).set (16 + j) (((((spre b j).getD j 0 + xr (xr (ror ((spre b j).getD (1 + j) 0) 7) (ror ((spre b j).getD (1 + j) 0) 18)) ((spre b j).getD (1 + j) 0 / 2 ^ 3)) % 4294967296 + (spre b j).getD (9 + j) 0) % 4294967296 +
      xr (xr (ror ((spre b j).getD (14 + j) 0) 17) (ror ((spre b j).getD (14 + j) 0) 19)) ((spre b j).getD (14 + j) 0 / 2 ^ 10)) % 4294967296) = spre b (j + 1) := by
  have hl := length_sched (first16 b) j
  rw [length_first16] at hl
  have hg : ∀ i, i < 16 + j → (spre b j).getD i 0 = (sched j (first16 b)).getD i 0 := fun i hi => getD_app_left (by omega)
  rw [hg j (by omega), hg (1 + j) (by omega), hg (9 + j) (by omega), hg (14 + j) (by omega)]
  unfold spre
  rw [show 48 - j = (48 - (j + 1)) + 1 by omega, List.replicate_succ, set_mid (by omega), sched, List.append_assoc]
  congr 1
  simp only [List.cons_append, List.nil_append]
  congr 1
  unfold nextW sig0 sig1
  rw [hl, show j + 16 - 16 = j by omega, show j + 16 - 15 = 1 + j by omega, show j + 16 - 7 = 9 + j by omega, show j + 16 - 2 = 14 + j by omega]
  omega
theorem spre_end (b : List Int) : spre b 48 = wordsOf b := by simp [spre, wordsOf]
def addP (s r : List Int) (i : Nat) : List Int := ((List.range i).map fun k => (r.getD k 0 + s.getD k 0) % 4294967296) ++ r.drop i
theorem length_addP {s r : List Int} {i : Nat} (hr : r.length = 8) (hi : i ≤ 8) : (addP s r i).length = 8 := by simp [addP]; omega
theorem addP_get {s r : List Int} {i : Nat} : (addP s r i).getD i 0 = r.getD i 0 := by
  simp only [addP, List.getD_eq_getElem?_getD]
  rw [List.getElem?_append_right (by simp)]
  simp
theorem addP_succ {s r : List Int} {i : Nat} (hr : r.length = 8) (hi : i < 8) : (addP s r i).set i (((addP s r i).getD i 0 + s.getD i 0) % 4294967296) = addP s r (i + 1) := by
  rw [addP_get]
  unfold addP
  rw [show r.drop i = r.getD i 0 :: r.drop (i + 1) by
    rw [List.drop_eq_getElem_cons (by omega)]; congr 1; simp [List.getD_eq_getElem?_getD, hr, hi]]
  rw [set_mid (by simp), List.range_succ, List.map_append, List.append_assoc]
  rfl
theorem addP_zero (s r : List Int) : addP s r 0 = r := by simp [addP]
theorem addP_end {s r : List Int} (hr : r.length = 8) : addP s r 8 = addW s r := by
  unfold addP addW
  rw [List.drop_of_length_le (by omega), List.append_nil]
theorem tW_raw {k w : Int} {s : List Int} : IntKind.u32.wrap ((((s.getD 7 0 + xr (xr (ror (s.getD 4 0) 6) (ror (s.getD 4 0) 11)) (ror (s.getD 4 0) 25)) % 4294967296 + chW (s.getD 4 0) (s.getD 5 0) (s.getD 6 0)) % 4294967296 + k) % 4294967296 + w) = tW k w s := by
  rw [u32_wrap]; unfold tW bsig1; omega
theorem rounds_zero {ks ws s : List Int} : rounds ks ws 0 s = s := rfl
theorem rounds_blk {t : TypeId} {ks ws s : List Int} {n : Nat} : Blk.blk t (I .u32 (rounds ks ws (n + 1) s)) =
    .blk t [.i .u32 ((tW (ks.getD n 0) (ws.getD n 0) (rounds ks ws n s) + uW (rounds ks ws n s)) % 4294967296), .i .u32 ((rounds ks ws n s).getD 0 0), .i .u32 ((rounds ks ws n s).getD 1 0), .i .u32 ((rounds ks ws n s).getD 2 0),
      .i .u32 (((rounds ks ws n s).getD 3 0 + tW (ks.getD n 0) (ws.getD n 0) (rounds ks ws n s)) % 4294967296), .i .u32 ((rounds ks ws n s).getD 4 0), .i .u32 ((rounds ks ws n s).getD 5 0), .i .u32 ((rounds ks ws n s).getD 6 0)] := rfl
theorem wpre_zero {b : List Int} : wpre b 0 = List.replicate 64 0 := rfl
def padZ (n : Nat) : Nat := (119 - n % 64) % 64
theorem padZ_lt (n : Nat) : padZ n < 64 := by unfold padZ; omega
theorem padZ_end {n i : Nat} (hi : i ≤ padZ n) (h : (n + (1 + i) + 8) % 64 = 0) : i = padZ n := by unfold padZ at *; omega
theorem padZ_all (n : Nat) : (n + (1 + padZ n) + 8) % 64 = 0 := by unfold padZ; omega
def beB (x j : Nat) : Int := ((x / 2 ^ (8 * (7 - j)) % 256 : Nat) : Int)
def padP (n j : Nat) : List Int := (128 :: List.replicate (padZ n) 0) ++ (List.range j).map (beB (8 * n))
def padM (n : Nat) : List Int := padP n 8
theorem length_padP (n j : Nat) : (padP n j).length = 1 + padZ n + j := by simp [padP]; omega
theorem length_padM (n : Nat) : (padM n).length = 9 + padZ n := by rw [padM, length_padP]; omega
theorem padP_succ (n j : Nat) : padP n j ++ [beB (8 * n) j] = padP n (j + 1) := by
  unfold padP
  rw [List.range_succ, List.map_append, List.append_assoc]; rfl
theorem padP_zero (n : Nat) : 128 :: List.replicate (padZ n) 0 = padP n 0 := by simp [padP]
theorem rep_succ (i : Nat) : (128 :: List.replicate i 0) ++ [0] = (128 :: List.replicate (i + 1) (0 : Int)) := by
  rw [List.replicate_succ', List.cons_append]
theorem beB_range (x j : Nat) : 0 ≤ beB x j ∧ beB x j < 256 := by unfold beB; omega
theorem B8_append {l m : List Int} (hl : B8 l) (hm : B8 m) : B8 (l ++ m) := by
  intro x hx
  rcases List.mem_append.1 hx with h | h
  · exact hl x h
  · exact hm x h
theorem B8_padM (n : Nat) : B8 (padM n) := by
  intro x hx
  simp only [padM, padP, List.cons_append, List.mem_cons, List.mem_append, List.mem_replicate, List.mem_map] at hx
  rcases hx with rfl | ⟨_, rfl⟩ | ⟨j, _, rfl⟩
  · decide
  · decide
  · exact beB_range _ _
theorem pad_byte {n j : Nat} (hn : n ≤ 1099511627776) (hj : j < 8) : IntKind.u8.wrap (binI .shr .u64 (binI .mul .u64 (n : Int) 8) (8 * (7 - (j : Int)))) = beB (8 * n) j := by
  have h1 : binI .mul .u64 (n : Int) 8 = ((8 * n : Nat) : Int) := by
    show IntKind.u64.wrap _ = _
    rw [u64_wrap]; omega
  rw [h1, shr_n (n := 8 * (7 - j)) (by omega) (by show 8 * (7 - j) ≤ 64; omega), u8_wrap]
  unfold beB
  rw [Int.natCast_emod, Int.natCast_ediv, Int.natCast_pow]; rfl
def sumAt (ks m : List Int) (s : List Int) : Nat → List Int
  | 0 => s
  | i + 1 => blockM ks (sumAt ks m s i) ((m.drop (64 * i)).take 64)
theorem sumAt_zero {ks m s : List Int} : sumAt ks m s 0 = s := rfl
theorem sumAt_succ {ks m s : List Int} {i : Nat} : sumAt ks m s (i + 1) = blockM ks (sumAt ks m s i) ((m.drop (64 * i)).take 64) := rfl
theorem length_sumAt {ks m s : List Int} (hs : s.length = 8) : ∀ i, (sumAt ks m s i).length = 8
  | 0 => hs
  | _ + 1 => length_block ks _ _
theorem W32_sumAt {ks m s : List Int} (hs : W32 s) : ∀ i, W32 (sumAt ks m s i)
  | 0 => hs
  | _ + 1 => W32_block ks _ _
theorem W32_start8 : W32 start8 := by unfold W32 start8; decide
def outB (s : List Int) (j : Nat) : Int := s.getD (j / 4) 0 / 2 ^ (24 - 8 * (j % 4)) % 256
def outP (s : List Int) (j : Nat) : List Int := (List.range j).map (outB s) ++ List.replicate (32 - j) 0
def outM (s : List Int) : List Int := (List.range 32).map (outB s)
theorem outP_zero {s : List Int} : outP s 0 = List.replicate 32 0 := rfl
theorem length_outP {s : List Int} {j : Nat} (hj : j ≤ 32) : (outP s j).length = 32 := by simp [outP]; omega
theorem outP_succ {s : List Int} {j : Nat} (hj : j < 32) : (outP s j).set j (outB s j) = outP s (j + 1) := by
  unfold outP
  rw [show 32 - j = (32 - (j + 1)) + 1 by omega, List.replicate_succ, set_mid (by simp), List.range_succ, List.map_append, List.append_assoc]
  rfl
theorem outP_end {s : List Int} : outP s 32 = outM s := by simp [outP, outM]
theorem out_byte {s : List Int} {i k : Nat} (hk : k < 4) : IntKind.u8.wrap (binI .shr .u32 (s.getD i 0) (24 - 8 * (k : Int))) = outB s (4 * i + k) := by
  rw [shr_n (n := 24 - 8 * k) (by omega) (by show 24 - 8 * k ≤ 32; omega), u8_wrap]
  unfold outB
  rw [show (4 * i + k) / 4 = i by omega, show (4 * i + k) % 4 = k by omega]
def paddedM (m : List Int) : List Int := m ++ padM m.length
def nblk (n : Nat) : Nat := (n + (1 + padZ n) + 8) / 64
theorem length_padded (m : List Int) : (paddedM m).length = 64 * nblk m.length := by
  have := padZ_all m.length
  unfold paddedM nblk
  rw [List.length_append, length_padM]; omega
def sha (ks m : List Int) : List Int := outM (sumAt ks (paddedM m) start8 (nblk m.length))
theorem length_sha (ks m : List Int) : (sha ks m).length = 32 := by simp [sha, outM]
theorem B8_sha (ks m : List Int) : B8 (sha ks m) := by
  intro x hx
  simp only [sha, outM, List.mem_map] at hx
  obtain ⟨j, _, rfl⟩ := hx
  unfold outB; omega
theorem B8_padded {m : List Int} (hm : B8 m) : B8 (paddedM m) := B8_append hm (B8_padM _)
theorem B8_cut {m : List Int} (hm : B8 m) (i n : Nat) : B8 ((m.drop i).take n) := fun x hx => hm x (List.mem_of_mem_drop (List.mem_of_mem_take hx))
theorem keyless_parts {ps : List (Nat × List Int)} {m : Nat} : (AV.vs m (ps.map fun p => AV.vs p.1 (I .u8 p.2))).inS (fun _ => False) := by
  simp only [AV.inS]
  rw [inSL_iff]
  intro x hx
  obtain ⟨p, _, rfl⟩ := List.mem_map.1 hx
  exact inSL_I _
theorem parts_succ {ps : List (Nat × List Int)} {i : Nat} (hi : i < ps.length) : ((ps.take (i + 1)).map (·.2)).flatten = ((ps.take i).map (·.2)).flatten ++ (ps[i]).2 := by
  rw [List.take_succ_eq_append_getElem hi, List.map_append, List.flatten_append]
  simp
theorem parts_le (ps : List (Nat × List Int)) (i : Nat) (hi : i < ps.length) : ((ps.take i).map (·.2)).flatten.length + (ps[i]).2.length ≤ (ps.map (·.2)).flatten.length := by
  have h1 : ps = ps.take (i + 1) ++ ps.drop (i + 1) := (List.take_append_drop _ _).symm
  have h2 := congrArg (fun l : List (Nat × List Int) => (l.map (·.2)).flatten.length) h1
  simp only [List.map_append, List.flatten_append, List.length_append] at h2
  rw [parts_succ hi, List.length_append] at h2
  omega
theorem parts_get {ps : List (Nat × List Int)} {i : Nat} (hi : i < ps.length) : (ps.map fun p => AV.vs p.1 (I .u8 p.2))[i]? = some (.vs (ps[i]).1 (I .u8 (ps[i]).2)) := by
  rw [List.getElem?_map, List.getElem?_eq_getElem hi]; rfl
theorem B8_parts {ps : List (Nat × List Int)} (h : ∀ p ∈ ps, B8 p.2) : B8 (ps.map (·.2)).flatten := by
  intro x hx
  simp only [List.mem_flatten, List.mem_map] at hx
  obtain ⟨l, ⟨p, hp, rfl⟩, hx⟩ := hx
  exact h p hp x hx
theorem len_pad (n : Nat) : n + (9 + padZ n) = 64 * nblk n := by
  have := padZ_all n
  unfold nblk; omega
theorem first16_eq {b : List Int} : (List.range 16).map (fun j => word4 b (4 * j)) = first16 b := rfl
theorem first_succ {b : List Int} {i : Nat} : (List.range i).map (fun j => word4 b (4 * j)) ++ [word4 b (4 * i)] = (List.range (i + 1)).map (fun j => word4 b (4 * j)) := by
  rw [List.range_succ, List.map_append]; rfl
theorem sched_zero {w : List Int} : sched 0 w = w := rfl
theorem sched_step {w : List Int} {j : Nat} (hl : (sched j w).length = j + 16) :
    sched j w ++ [((sched j w).getD j 0 + xr (xr (ror ((sched j w).getD (1 + j) 0) 7) (ror ((sched j w).getD (1 + j) 0) 18)) ((sched j w).getD (1 + j) 0 / 2 ^ 3) + (sched j w).getD (9 + j) 0 +
      xr (xr (ror ((sched j w).getD (14 + j) 0) 17) (ror ((sched j w).getD (14 + j) 0) 19)) ((sched j w).getD (14 + j) 0 / 2 ^ 10)) % 4294967296] = sched (j + 1) w := by
  rw [sched]
  unfold nextW sig0 sig1
  rw [hl, show j + 16 - 16 = j by omega, show j + 16 - 15 = 1 + j by omega, show j + 16 - 7 = 9 + j by omega, show j + 16 - 2 = 14 + j by omega]
theorem words_eq {b : List Int} : sched 48 (first16 b) = wordsOf b := rfl
theorem rounds_get {ks ws s : List Int} {n : Nat} : (rounds ks ws (n + 1) s).getD 0 0 = (tW (ks.getD n 0) (ws.getD n 0) (rounds ks ws n s) + uW (rounds ks ws n s)) % 4294967296 ∧ (rounds ks ws (n + 1) s).getD 1 0 = (rounds ks ws n s).getD 0 0 ∧
    (rounds ks ws (n + 1) s).getD 2 0 = (rounds ks ws n s).getD 1 0 ∧ (rounds ks ws (n + 1) s).getD 3 0 = (rounds ks ws n s).getD 2 0 ∧
    (rounds ks ws (n + 1) s).getD 4 0 = ((rounds ks ws n s).getD 3 0 + tW (ks.getD n 0) (ws.getD n 0) (rounds ks ws n s)) % 4294967296 ∧ (rounds ks ws (n + 1) s).getD 5 0 = (rounds ks ws n s).getD 4 0 ∧
    (rounds ks ws (n + 1) s).getD 6 0 = (rounds ks ws n s).getD 5 0 ∧ (rounds ks ws (n + 1) s).getD 7 0 = (rounds ks ws n s).getD 6 0 := ⟨rfl, rfl, rfl, rfl, rfl, rfl, rfl, rfl⟩
theorem tW_range (k w : Int) (s : List Int) : 0 ≤ tW k w s ∧ tW k w s < 4294967296 := by unfold tW; omega
theorem uW_range (s : List Int) : 0 ≤ uW s ∧ uW s < 4294967296 := by unfold uW; omega
theorem tW_eq {k w : Int} {s : List Int} : (s.getD 7 0 + xr (xr (ror (s.getD 4 0) 6) (ror (s.getD 4 0) 11)) (ror (s.getD 4 0) 25) + xr (an (s.getD 4 0) (s.getD 5 0)) (an (4294967295 - s.getD 4 0) (s.getD 6 0)) + k + w) % 4294967296 = tW k w s := by
  unfold tW bsig1 chW; rfl
theorem uW_eq {s : List Int} : (xr (xr (ror (s.getD 0 0) 2) (ror (s.getD 0 0) 13)) (ror (s.getD 0 0) 22) + xr (xr (an (s.getD 0 0) (s.getD 1 0)) (an (s.getD 0 0) (s.getD 2 0))) (an (s.getD 1 0) (s.getD 2 0))) % 4294967296 = uW s := by
  unfold uW bsig0 majW; rfl
theorem list8 {l : List Int} (h : l.length = 8) : l = [l.getD 0 0, l.getD 1 0, l.getD 2 0, l.getD 3 0, l.getD 4 0, l.getD 5 0, l.getD 6 0, l.getD 7 0] := by
  match l, h with
  | [a, b, c, d, e, f, g, i], _ => rfl
def addQ (s r : List Int) (i : Nat) : List Int := (List.range i).map fun k => (r.getD k 0 + s.getD k 0) % 4294967296
theorem addQ_zero {s r : List Int} : addQ s r 0 = [] := rfl
theorem addQ_succ {s r : List Int} {i : Nat} : addQ s r i ++ [(r.getD i 0 + s.getD i 0) % 4294967296] = addQ s r (i + 1) := by
  unfold addQ; rw [List.range_succ, List.map_append]; rfl
theorem addQ_end {ks s b : List Int} : addQ s (rounds ks (wordsOf b) 64 s) 8 = blockM ks s b := by unfold addQ blockM addW; rfl
def tailB (n j : Nat) : List Int := (List.range j).map fun t => beB (8 * n) (8 - j + t)
theorem tailB_zero {n : Nat} : tailB n 0 = [] := rfl
theorem tailB_succ {n j : Nat} (hj : j < 8) : beB (8 * n) (7 - j) :: tailB n j = tailB n (j + 1) := by
  unfold tailB
  rw [List.range_succ_eq_map, List.map_cons, List.map_map]
  congr 1
  · rw [show 8 - (j + 1) + 0 = 7 - j by omega]
  · apply List.map_congr_left
    intro t _
    simp only [Function.comp]
    rw [show 8 - j + t = 8 - (j + 1) + t.succ by omega]
theorem tail_end {n : Nat} : (128 :: List.replicate (padZ n) 0) ++ tailB n 8 = padM n := by
  unfold padM padP tailB
  congr 1
theorem tail_byte {n j : Nat} (hj : j < 8) : ((8 * n / 256 ^ j % 256 : Nat) : Int) = beB (8 * n) (7 - j) := by
  unfold beB
  rw [show 7 - (7 - j) = j by omega, Nat.pow_mul]
theorem length_tailB {n j : Nat} : (tailB n j).length = j := by simp [tailB]
def outQ (s : List Int) (i : Nat) : List Int := (List.range (4 * i)).map (outB s)
theorem outQ_zero {s : List Int} : outQ s 0 = [] := rfl
theorem outQ_succ {s : List Int} {i : Nat} : outQ s i ++ [s.getD i 0 / 16777216 % 256, s.getD i 0 / 65536 % 256, s.getD i 0 / 256 % 256, s.getD i 0 % 256] = outQ s (i + 1) := by
  unfold outQ
  rw [show 4 * (i + 1) = 4 * i + 1 + 1 + 1 + 1 by omega, List.range_succ, List.range_succ, List.range_succ, List.range_succ]
  simp only [List.map_append, List.append_assoc, List.map_cons, List.map_nil, List.cons_append, List.nil_append]
  congr 1
  unfold outB
  have e0 : 4 * i / 4 = i := by omega
  have e1 : (4 * i + 1) / 4 = i := by omega
  have e2 : (4 * i + 1 + 1) / 4 = i := by omega
  have e3 : (4 * i + 1 + 1 + 1) / 4 = i := by omega
  have m0 : 4 * i % 4 = 0 := by omega
  have m1 : (4 * i + 1) % 4 = 1 := by omega
  have m2 : (4 * i + 1 + 1) % 4 = 2 := by omega
  have m3 : (4 * i + 1 + 1 + 1) % 4 = 3 := by omega
  rw [e0, e1, e2, e3, m0, m1, m2, m3]
  simp
theorem outQ_end {s : List Int} : outQ s 8 = outM s := rfl
attribute [irreducible] wpre spre sched wordsOf rounds rnd tW uW blockM addW addP first16 nextW word4 ror chW majW bsig0 bsig1 sig0 sig1 padZ beB padP padM sumAt outB outP outM paddedM nblk sha addQ tailB outQ
end Go.Sk
namespace Go.Sk
def val : List Nat → Nat
  | [] => 0
  | x :: r => x + 65536 * val r
abbrev NI (l : List Nat) : List Int := l.map (fun n : Nat => (n : Int))
def B16 (l : List Nat) : Prop := ∀ x ∈ l, x < 65536
def digs : Nat → Nat → List Nat
  | _, 0 => []
  | x, n + 1 => x % 65536 :: digs (x / 65536) n
theorem length_digs : ∀ (x n : Nat), (digs x n).length = n
  | _, 0 => rfl
  | x, n + 1 => by simp [digs, length_digs (x / 65536) n]
theorem val_digs : ∀ (n x : Nat), x < 65536 ^ n → val (digs x n) = x
  | 0, x, h => by simp at h; subst h; rfl
  | n + 1, x, h => by
    simp only [digs, val]
    rw [val_digs n (x / 65536) (by rw [Nat.pow_succ] at h; omega)]
    omega
theorem B16_digs : ∀ (n x : Nat), B16 (digs x n)
  | 0, _ => by intro y hy; simp [digs] at hy
  | n + 1, x => by
    intro y hy
    simp only [digs, List.mem_cons] at hy
    rcases hy with rfl | hy
    · omega
    · exact B16_digs n _ y hy
theorem val_lt : ∀ (l : List Nat), B16 l → val l < 65536 ^ l.length
  | [], _ => by simp [val]
  | x :: r, h => by
    have h1 := val_lt r fun y hy => h y (List.mem_cons_of_mem _ hy)
    have h2 := h x List.mem_cons_self
    simp only [val, List.length_cons, Nat.pow_succ]
    omega
theorem digs_val : ∀ (l : List Nat), B16 l → digs (val l) l.length = l
  | [], _ => rfl
  | x :: r, h => by
    have h2 := h x List.mem_cons_self
    simp only [val, List.length_cons, digs]
    rw [show (x + 65536 * val r) % 65536 = x by omega, show (x + 65536 * val r) / 65536 = val r by omega, digs_val r fun y hy => h y (List.mem_cons_of_mem _ hy)]
theorem val_append : ∀ (l m : List Nat), val (l ++ m) = val l + 65536 ^ l.length * val m
  | [], m => by simp [val]
  | x :: r, m => by
    simp only [List.cons_append, val, val_append r m, List.length_cons, Nat.pow_succ]
    rw [Nat.mul_add, ← Nat.mul_assoc, Nat.mul_comm 65536 (65536 ^ r.length)]
    omega
theorem val_set : ∀ (l : List Nat) (k v : Nat), k < l.length → val (l.set k (l.getD k 0 + v)) = val l + 65536 ^ k * v
  | [], _, _, h => by simp at h
  | x :: r, 0, v, _ => by simp [val]; omega
  | x :: r, k + 1, v, h => by
    have := val_set r k v (by simpa using h)
    simp only [List.set_cons_succ, val, List.getD_cons_succ]
    rw [this, Nat.mul_add, ← Nat.mul_assoc, Nat.pow_succ, Nat.mul_comm 65536 (65536 ^ k)]
    omega
theorem val_ge : ∀ (l : List Nat) (k : Nat), 65536 ^ k * l.getD k 0 ≤ val l
  | [], _ => by simp
  | x :: r, 0 => by simp [val]
  | x :: r, k + 1 => by
    have := val_ge r k
    simp only [List.getD_cons_succ, val]
    rw [Nat.pow_succ, Nat.mul_comm (65536 ^ k) 65536, Nat.mul_assoc]
    omega
theorem val_zeros : ∀ (n : Nat), val (List.replicate n 0) = 0
  | 0 => rfl
  | n + 1 => by simp [List.replicate_succ, val, val_zeros n]
theorem val_carry : ∀ (l : List Nat) (k : Nat), k + 1 < l.length → val ((l.set (k + 1) (l.getD (k + 1) 0 + l.getD k 0 / 65536)).set k (l.getD k 0 % 65536)) = val l
  | [], _, h => by simp at h
  | x :: [], k, h => by simp at h
  | x :: y :: r, 0, _ => by simp [val]; omega
  | x :: y :: r, k + 1, h => by
    have := val_carry (y :: r) k (by simpa using h)
    simp only [List.set_cons_succ, List.getD_cons_succ, val] at this ⊢
    omega
theorem getD_set_eq {l : List Nat} {k : Nat} {v : Nat} (h : k < l.length) : (l.set k v).getD k 0 = v := by simp [List.getD_eq_getElem?_getD, h]
theorem getD_set_ne {l : List Nat} {k j : Nat} {v : Nat} (h : k ≠ j) : (l.set k v).getD j 0 = l.getD j 0 := by simp [List.getD_eq_getElem?_getD, List.getElem?_set_ne h]
theorem B16_of_getD {l : List Nat} (h : ∀ k, k < l.length → l.getD k 0 < 65536) : B16 l := by
  intro x hx
  obtain ⟨k, hk, rfl⟩ := List.getElem_of_mem hx
  have := h k hk
  simpa [List.getD_eq_getElem?_getD, hk] using this
theorem getD_B16 {l : List Nat} (h : B16 l) (k : Nat) : l.getD k 0 < 65536 := by
  rw [List.getD_eq_getElem?_getD]
  cases hc : l[k]? with
  | none => simp
  | some x => exact h x (List.mem_of_getElem? hc)
theorem NI_set {l : List Nat} {k v : Nat} : (NI l).set k (v : Int) = NI (l.set k v) := by simp [List.map_set]
theorem NI_getD {l : List Nat} {k : Nat} : (NI l).getD k 0 = ((l.getD k 0 : Nat) : Int) := by
  simp only [List.getD_eq_getElem?_getD, List.getElem?_map]
  cases l[k]? <;> rfl
theorem NI_zeros {n : Nat} : List.replicate n (0 : Int) = NI (List.replicate n 0) := by simp
theorem val_take_succ {b : List Nat} {j : Nat} (hj : j < b.length) : val (b.take (j + 1)) = val (b.take j) + 65536 ^ j * b.getD j 0 := by
  rw [List.take_succ_eq_append_getElem hj, val_append]
  simp only [List.length_take, Nat.min_eq_left (Nat.le_of_lt hj), val, Nat.mul_zero, Nat.add_zero]
  rw [List.getD_eq_getElem?_getD, List.getElem?_eq_getElem hj]; rfl
structure TimesI (a b out : List Nat) (i : Nat) : Prop where
  len : out.length = a.length + b.length
  val : val out = val (a.take i) * val b
  small : B16 out
structure TimesJ (a b out : List Nat) (i j : Nat) : Prop where
  len : out.length = a.length + b.length
  val : val out = val (a.take i) * val b + 65536 ^ i * (a.getD i 0 * val (b.take j))
  small : ∀ k, out.getD k 0 < (if i ≤ k ∧ k < i + j then 4294967296 else 65536)
structure TimesK (a b out : List Nat) (i k : Nat) : Prop where
  len : out.length = a.length + b.length
  val : Go.Sk.val out = Go.Sk.val (a.take (i + 1)) * Go.Sk.val b
  small : ∀ j, out.getD j 0 < (if j < k then 65536 else if j = k then 4295098368 else 4294967296)
theorem TimesI.j {a b out : List Nat} {i : Nat} (h : TimesI a b out i) : TimesJ a b out i 0 := by
  refine ⟨h.len, ?_, fun k => ?_⟩
  · rw [h.val]; simp [Go.Sk.val]
  · have := getD_B16 h.small k
    split <;> omega
theorem TimesJ.succ {a b out : List Nat} {i j : Nat} (h : TimesJ a b out i j) (ha : B16 a) (hb : B16 b) (hi : i < a.length) (hj : j < b.length) :
    TimesJ a b (out.set (i + j) (out.getD (i + j) 0 + a.getD i 0 * b.getD j 0)) i (j + 1) := by
  have hl := h.len
  refine ⟨by simpa using hl, ?_, fun k => ?_⟩
  · rw [val_set _ _ _ (by omega), h.val, val_take_succ hj, Nat.mul_add (a.getD i 0), Nat.mul_add (65536 ^ i), Nat.add_assoc, Nat.pow_add]
    congr 2
    rw [← Nat.mul_assoc (a.getD i 0), Nat.mul_comm (a.getD i 0) (65536 ^ j), Nat.mul_assoc, Nat.mul_assoc]
  · have h1 := getD_B16 ha i
    have h2 := getD_B16 hb j
    have h3 : a.getD i 0 * b.getD j 0 ≤ 65535 * 65535 := Nat.mul_le_mul (by omega) (by omega)
    by_cases hk : i + j = k
    · subst hk
      rw [getD_set_eq (by omega)]
      have h4 := h.small (i + j)
      rw [if_neg (by omega)] at h4
      rw [if_pos (by omega)]
      omega
    · rw [getD_set_ne hk]
      have h4 := h.small k
      split at h4 <;> split <;> omega
theorem TimesJ.k {a b out : List Nat} {i : Nat} (h : TimesJ a b out i b.length) (hi : i < a.length) : TimesK a b out i 0 := by
  refine ⟨h.len, ?_, fun j => ?_⟩
  · rw [h.val, List.take_length, val_take_succ hi, Nat.add_mul, Nat.mul_assoc]
  · have := h.small j
    rw [if_neg (Nat.not_lt_zero j)]
    split at this <;> split <;> omega
theorem TimesK.succ {a b out : List Nat} {i k : Nat} (h : TimesK a b out i k) (hk : k + 1 < out.length) :
    TimesK a b ((out.set (k + 1) (out.getD (k + 1) 0 + out.getD k 0 / 65536)).set k (out.getD k 0 % 65536)) i (k + 1) := by
  refine ⟨by simpa using h.len, by rw [val_carry _ _ hk, h.val], fun j => ?_⟩
  have h1 := h.small k
  have h2 := h.small (k + 1)
  rw [if_neg (by omega), if_pos rfl] at h1
  rw [if_neg (by omega), if_neg (by omega)] at h2
  by_cases hj : k = j
  · subst hj
    rw [getD_set_eq (by simp; omega), if_pos (by omega)]
    omega
  · rw [getD_set_ne hj]
    by_cases hj2 : k + 1 = j
    · subst hj2
      rw [getD_set_eq hk, if_neg (by omega), if_pos rfl]
      omega
    · rw [getD_set_ne hj2]
      have h3 := h.small j
      by_cases h4 : j < k
      · rw [if_pos h4] at h3; rw [if_pos (by omega)]; exact h3
      · rw [if_neg h4, if_neg (by omega)] at h3
        rw [if_neg (by omega), if_neg (by omega)]; exact h3
theorem TimesK.i {a b out : List Nat} {i k : Nat} (h : TimesK a b out i k) (ha : B16 a) (hb : B16 b) (hi : i < a.length) (hk : k + 1 = out.length) : TimesI a b out (i + 1) := by
  refine ⟨h.len, h.val, B16_of_getD fun j hj => ?_⟩
  have h1 := h.small j
  by_cases hjk : j < k
  · rw [if_pos hjk] at h1; exact h1
  · have hj' : j = k := by omega
    subst hj'
    have h2 := val_ge out j
    rw [h.val] at h2
    have h3 := val_lt (a.take (i + 1)) fun x hx => ha x (List.mem_of_mem_take hx)
    have h4 := val_lt b hb
    rw [List.length_take, Nat.min_eq_left (by omega)] at h3
    have h5 : Go.Sk.val (a.take (i + 1)) * Go.Sk.val b < 65536 ^ (i + 1) * 65536 ^ b.length := Nat.mul_lt_mul'' h3 h4
    rw [← Nat.pow_add] at h5
    have h6 : (65536 : Nat) ^ (i + 1 + b.length) ≤ 65536 ^ (j + 1) := Nat.pow_le_pow_right (by decide) (by have := h.len; omega)
    have h7 : 65536 ^ j * out.getD j 0 < 65536 ^ j * 65536 := by
      rw [Nat.pow_succ] at h6; omega
    exact Nat.lt_of_mul_lt_mul_left h7
theorem TimesI.end {a b out : List Nat} (h : TimesI a b out a.length) : out = digs (Go.Sk.val a * Go.Sk.val b) (a.length + b.length) := by
  have h1 := h.val
  rw [List.take_length] at h1
  rw [← h1, ← h.len, digs_val out h.small]
theorem digs_getD : ∀ (n x k : Nat), k < n → (digs x n).getD k 0 = x / 65536 ^ k % 65536
  | 0, _, _, h => by omega
  | n + 1, x, 0, _ => by simp [digs]
  | n + 1, x, k + 1, h => by
    simp only [digs, List.getD_cons_succ]
    rw [digs_getD n (x / 65536) k (by omega), Nat.div_div_eq_div_mul, Nat.pow_succ, Nat.mul_comm]
theorem digs_getD_out {n x k : Nat} (h : n ≤ k) : (digs x n).getD k 0 = 0 := by
  rw [List.getD_eq_getElem?_getD, List.getElem?_eq_none (by rw [length_digs]; exact h)]; rfl
theorem digit {n x k : Nat} (hx : x < 65536 ^ n) : (digs x n).getD k 0 = x / 65536 ^ k % 65536 := by
  by_cases h : k < n
  · exact digs_getD n x k h
  · rw [digs_getD_out (by omega), Nat.div_eq_of_lt (Nat.lt_of_lt_of_le hx (Nat.pow_le_pow_right (by decide) (by omega)))]
theorem same_down {x y k : Nat} (h : x / 65536 ^ (k + 1) = y / 65536 ^ (k + 1)) (hd : x / 65536 ^ k % 65536 = y / 65536 ^ k % 65536) : x / 65536 ^ k = y / 65536 ^ k := by
  rw [Nat.pow_succ, ← Nat.div_div_eq_div_mul, ← Nat.div_div_eq_div_mul] at h
  omega
theorem above_down {x y k : Nat} (h : x / 65536 ^ (k + 1) = y / 65536 ^ (k + 1)) (hd : x / 65536 ^ k % 65536 < y / 65536 ^ k % 65536) : x < y := by
  rw [Nat.pow_succ, ← Nat.div_div_eq_div_mul, ← Nat.div_div_eq_div_mul] at h
  have h1 : x / 65536 ^ k < y / 65536 ^ k := by omega
  exact Nat.lt_of_not_le fun h2 => by
    have := Nat.div_le_div_right (c := 65536 ^ k) h2
    omega
def rootStep (p power r bit : Nat) : Nat := if (r + 2 ^ bit) ^ power ≤ p * 65536 ^ (2 * power) then r + 2 ^ bit else r
def rootN (p power : Nat) : Nat → Nat
  | 0 => 0
  | n + 1 => rootStep p power (rootN p power n) (36 - n)
def rootM (p power : Nat) : Nat := rootN p power 37 % 4294967296
theorem rootN_lt (p power : Nat) : ∀ n, n ≤ 37 → ∃ q, rootN p power n = q * 2 ^ (37 - n) ∧ rootN p power n < 2 ^ 37
  | 0, _ => ⟨0, by simp [rootN], by simp [rootN]⟩
  | n + 1, h => by
    obtain ⟨q, h1, h2⟩ := rootN_lt p power n (by omega)
    have e : 2 ^ (37 - n) = 2 * 2 ^ (36 - n) := by rw [show 37 - n = (36 - n) + 1 by omega, Nat.pow_succ, Nat.mul_comm]
    have hp : 0 < 2 ^ (36 - n) := Nat.pow_pos (by decide)
    have e3 : (2 : Nat) ^ 37 = 2 ^ n * 2 ^ (37 - n) := by rw [← Nat.pow_add, show n + (37 - n) = 37 by omega]
    rw [show 37 - (n + 1) = 36 - n by omega, rootN]
    unfold rootStep
    rw [e] at h1
    have hq : q < 2 ^ n := by
      rw [h1, e3, e] at h2
      exact Nat.lt_of_mul_lt_mul_right h2
    have e4 : q * (2 * 2 ^ (36 - n)) = 2 * q * 2 ^ (36 - n) := by rw [Nat.mul_comm 2 q, Nat.mul_assoc]
    have h5 : (2 * q + 1) * 2 ^ (36 - n) < 2 ^ n * (2 * 2 ^ (36 - n)) := by
      rw [show 2 ^ n * (2 * 2 ^ (36 - n)) = 2 ^ n * 2 * 2 ^ (36 - n) by rw [Nat.mul_assoc]]
      exact Nat.mul_lt_mul_of_pos_right (by omega) hp
    have h6 : (2 * q + 1) * 2 ^ (36 - n) = 2 * q * 2 ^ (36 - n) + 2 ^ (36 - n) := by rw [Nat.add_mul, Nat.one_mul]
    rw [e] at e3
    split
    · exact ⟨2 * q + 1, by rw [h1, h6, e4], by rw [h1, e4]; omega⟩
    · exact ⟨2 * q, by rw [h1, e4], h2⟩
def primesN : Nat → List Nat
  | 0 => []
  | n + 1 => if (primesN n).all (fun q => (n + 2) % q != 0) then primesN n ++ [n + 2] else primesN n
theorem primesN_mono : ∀ {m n : Nat}, m ≤ n → (primesN m).length ≤ (primesN n).length
  | m, 0, h => by have : m = 0 := by omega
                  subst this; exact Nat.le_refl _
  | m, n + 1, h => by
    rcases Nat.eq_or_lt_of_le h with h | h
    · subst h; exact Nat.le_refl _
    · refine Nat.le_trans (primesN_mono (m := m) (n := n) (by omega)) ?_
      rw [primesN]
      split <;> simp
theorem primesN_mem : ∀ {n q : Nat}, q ∈ primesN n → 2 ≤ q ∧ q ≤ n + 1
  | 0, q, h => by simp [primesN] at h
  | n + 1, q, h => by
    rw [primesN] at h
    split at h
    · rcases List.mem_append.1 h with h | h
      · have := primesN_mem h; omega
      · simp at h; omega
    · have := primesN_mem h; omega
def primes64 : List Nat := [2, 3, 5, 7, 11, 13, 17, 19, 23, 29, 31, 37, 41, 43, 47, 53, 59, 61, 67, 71, 73, 79, 83, 89, 97, 101, 103, 107, 109, 113, 127, 131, 137, 139, 149, 151, 157, 163, 167, 173, 179, 181, 191, 193, 197, 199, 211, 223, 227, 229, 233, 239, 241, 251, 257, 263, 269, 271, 277, 281, 283, 293, 307, 311]
def primes8 : List Nat := [2, 3, 5, 7, 11, 13, 17, 19]
theorem primes64_eq : primesN 310 = primes64 := by decide +kernel
theorem primes63_len : (primesN 309).length = 63 := by decide +kernel
theorem primes8_eq : primesN 18 = primes8 := by decide +kernel
theorem primes7_len : (primesN 17).length = 7 := by decide +kernel
theorem start8_roots : primes8.map (fun p => ((rootM p 2 : Nat) : Int)) = start8 := by decide +kernel
def tbl : List Int := [1116352408, 1899447441, 3049323471, 3921009573, 961987163, 1508970993, 2453635748, 2870763221, 3624381080, 310598401, 607225278, 1426881987, 1925078388, 2162078206, 2614888103, 3248222580, 3835390401, 4022224774, 264347078, 604807628, 770255983, 1249150122, 1555081692, 1996064986, 2554220882, 2821834349, 2952996808, 3210313671, 3336571891, 3584528711, 113926993, 338241895, 666307205, 773529912, 1294757372, 1396182291, 1695183700, 1986661051, 2177026350, 2456956037, 2730485921, 2820302411, 3259730800, 3345764771, 3516065817, 3600352804, 4094571909, 275423344, 430227734, 506948616, 659060556, 883997877, 958139571, 1322822218, 1537002063, 1747873779, 1955562222, 2024104815, 2227730452, 2361852424, 2428436474, 2756734187, 3204031479, 3329325298]
theorem tbl_roots : primes64.map (fun p => ((rootM p 3 : Nat) : Int)) = tbl := by decide +kernel
theorem nadd {x y : Nat} (h : x + y ≤ 9223372036854775807) : binI .add .i64 (x : Int) (y : Int) = ((x + y : Nat) : Int) := by rw [i64_add (by omega)]; omega
theorem nmul {x y : Nat} (h : x * y ≤ 9223372036854775807) : binI .mul .i64 (x : Int) (y : Int) = ((x * y : Nat) : Int) := by
  have e : (x : Int) * (y : Int) = ((x * y : Nat) : Int) := (Int.natCast_mul x y).symm
  rw [i64_mul (by rw [e]; omega), e]
theorem nquo {x y : Nat} (h : x ≤ 9223372036854775807) (hy : 0 < y) : binI .quo .i64 (x : Int) (y : Int) = ((x / y : Nat) : Int) := by rw [i64_quo (by omega) (by omega) (by omega), Int.natCast_ediv]
theorem nrem {x y : Nat} : binI .rem .i64 (x : Int) (y : Int) = ((x % y : Nat) : Int) := by rw [rem_nn (by omega), Int.natCast_emod]
theorem unit_NI {k : IntKind} {ws : List Nat} {m : Nat} (h : m < ws.length) : unit false 1 ((I k (NI ws)).drop m) (.i k ((ws.getD m 0 : Nat) : Int)) := by
  have := unit_I (k := k) (ws := NI ws) (m := m) (by simpa using h)
  rwa [NI_getD] at this
theorem put_rowN {t : TypeId} {sz n : Nat} {k : IntKind} {ws : List Nat} {m v : Nat} (h : m < ws.length) : (Blk.row t sz n (I k (NI ws))).put m [.i k (v : Int)] = .row t sz n (I k (NI (ws.set m v))) := by
  rw [put_rowI (by simpa using h), NI_set]
theorem div_pow_succ {x : Int} {k : Nat} : x / 2 ^ k / 2 = x / 2 ^ (k + 1) := by
  rw [Int.pow_succ, Int.ediv_ediv_of_nonneg (Int.le_of_lt (Int.pow_pos (by decide)))]
theorem digs3 {x : Nat} (h : x < 65536 ^ 3) : digs x 3 = [x % 65536, x / 65536 % 65536, x / 65536 / 65536] := by
  simp only [digs]
  rw [Nat.mod_eq_of_lt (a := x / 65536 / 65536) (by omega)]
theorem digs_zeros {p : Nat} (hp : p < 65536) : ∀ n, digs (p * 65536 ^ n) (n + 1) = List.replicate n 0 ++ [p]
  | 0 => by simp [digs]; omega
  | n + 1 => by
    rw [digs, List.replicate_succ, List.cons_append, Nat.pow_succ, ← Nat.mul_assoc, Nat.mul_mod_left, Nat.mul_div_left _ (by decide), digs_zeros hp n]
theorem length_NI {l : List Nat} : (NI l).length = l.length := by simp
theorem rootN_up {p power c : Nat} (h : ¬ p * 65536 ^ (2 * power) < (rootN p power c + 2 ^ (36 - c)) ^ power) : rootN p power (c + 1) = rootN p power c + 2 ^ (36 - c) := by
  show rootStep p power (rootN p power c) (36 - c) = _
  unfold rootStep; rw [if_pos (by omega)]
theorem rootN_same {p power c : Nat} (h : p * 65536 ^ (2 * power) < (rootN p power c + 2 ^ (36 - c)) ^ power) : rootN p power (c + 1) = rootN p power c := by
  show rootStep p power (rootN p power c) (36 - c) = _
  unfold rootStep; rw [if_neg (by omega)]
theorem rootN_zero {p power : Nat} : rootN p power 0 = 0 := rfl
theorem pow_fits {x i : Nat} (h : x < 65536 ^ 3) (hi : i ≠ 0) : x ^ i < 65536 ^ (3 * i) := by
  rw [Nat.pow_mul]; exact Nat.pow_lt_pow_left h hi
theorem sum_fits {p n : Nat} (h : p < 65536) : p * 65536 ^ n < 65536 ^ (n + 1) := by
  rw [Nat.pow_succ, Nat.mul_comm]; exact Nat.mul_lt_mul_of_pos_left h (Nat.pow_pos (by decide))
theorem primesN_zero : primesN 0 = [] := rfl
theorem primesN_t {n : Nat} (h : (primesN n).all (fun q => (n + 2) % q != 0) = true) : primesN (n + 1) = primesN n ++ [n + 2] := by rw [primesN, if_pos h]
theorem primesN_f {n : Nat} (h : (primesN n).all (fun q => (n + 2) % q != 0) = false) : primesN (n + 1) = primesN n := by rw [primesN, if_neg (by rw [h]; simp)]
theorem all_take_succ {l : List Nat} {f : Nat → Bool} {k : Nat} (hk : k < l.length) : (l.take (k + 1)).all f = ((l.take k).all f && f (l.getD k 0)) := by
  rw [List.take_succ_eq_append_getElem hk, List.all_append]
  simp [List.getD_eq_getElem?_getD, hk]
theorem B16_primes64 : B16 primes64 := by unfold B16 primes64; decide
theorem B16_primes8 : B16 primes8 := by unfold B16 primes8; decide
theorem roots_succ {ps : List Nat} {power k : Nat} (hk : k < ps.length) : (ps.take k).map (fun p => ((rootM p power : Nat) : Int)) ++ [((rootM (ps.getD k 0) power : Nat) : Int)] = (ps.take (k + 1)).map (fun p => ((rootM p power : Nat) : Int)) := by
  rw [List.take_succ_eq_append_getElem hk, List.map_append]
  simp [List.getD_eq_getElem?_getD, hk]
theorem nrem_u {x y : Nat} : binI .rem .u64 (x : Int) (y : Int) = ((x % y : Nat) : Int) := by rw [rem_nn (by omega), Int.natCast_emod]
theorem nquo_u {x y : Nat} (h : x ≤ 18446744073709551615) : binI .quo .u64 (x : Int) (y : Int) = ((x / y : Nat) : Int) := by
  show IntKind.u64.wrap ((x : Int).tdiv y) = _
  rw [Int.tdiv_eq_ediv_of_nonneg (by omega), ← Int.natCast_ediv]
  have h2 := Nat.div_le_self x y
  generalize x / y = q at h2 ⊢
  exact u64_conv (by omega)
theorem u64_mul {a b : Int} (h : 0 ≤ a * b ∧ a * b ≤ 18446744073709551615) : binI .mul .u64 a b = a * b := u64_conv h
theorem W32_tbl : W32 tbl := by unfold W32 tbl; decide
attribute [irreducible] digs val rootM rootN rootStep primesN
end Go.Sk
namespace Go.Sk
open Go.RowKit Go.ChangeShapes Go.WideShapes Go.WideElems
inductive Sh where
  | int (k : IntKind)
  | bool
  | str
  | nums (n : Nat) (k : IntKind)
  | st (fs : List Sh)
  | sl (sz : Nat) (e : Sh)
mutual
/-- What the cells of a shape say. -/
def Sh.has : Sh → List AV → Prop
  | .int k, xs => ∃ n, xs = [.i k n] ∧ (Lit.int k n).wf = true
  | .bool, xs => ∃ b, xs = [.b b]
  | .str, xs => ∃ s : ByteArray, xs = [.s s] ∧ s.size ≤ maxLen
  | .nums n k, xs => ∃ ws : List Int, xs = I k ws ∧ ws.length = n ∧ ∀ w ∈ ws, (Lit.int k w).wf = true
  | .st fs, xs => Sh.hasL fs xs
  | .sl sz e, xs => ∃ (n : Nat) (l : List (List AV)), xs = [.vs n l.flatten] ∧ l.length = n ∧ n ≤ maxLen ∧ ∀ c ∈ l, c.length = sz ∧ Sh.has e c
def Sh.hasL : List Sh → List AV → Prop
  | [], xs => xs = []
  | s :: r, xs => ∃ a b, xs = a ++ b ∧ Sh.has s a ∧ Sh.hasL r b
end
def flds (P : Program) (sh : TypeId → Option Sh) : List Field → Nat → Option (List Sh × Nat)
  | [], o => some ([], o)
  | f :: r, o =>
    if f.offset = o then
      match sh f.type, flds P sh r (o + P.cellsOf f.type) with
      | some s, some (ss, e) => some (s :: ss, e)
      | _, _ => none
    else none
def shOf (P : Program) : Nat → TypeId → Option Sh
  | 0, _ => none
  | n + 1, t =>
    match P.underlying t with
    | some (.int k) => if P.cellsOf t = 1 then some (.int k) else none
    | some .bool => some .bool
    | some .string => some .str
    | some (.array m e) =>
      match P.underlying e with
      | some (.int k) => if P.cellsOf e = 1 ∧ P.cellsOf t = m then some (.nums m k) else none
      | _ => none
    | some (.slice e) => (shOf P n e).map (.sl (P.cellsOf e))
    | some (.struct fs) =>
      match flds P (shOf P n) fs.toList 0 with
      | some (ss, e) => if e = P.cellsOf t then some (.st ss) else none
      | none => none
    | _ => none
section
variable {H : Type} {enc : TypeId × Value → H} {P : Program} {W : World} {sp : Nat → Bool} {ρ : Nat → Value}
abbrev noO : Nat → Prop := fun _ => False
def RdOK (W : World) (ρ : Nat → Value) (s : Sh) (cs : List Value) : Prop := ∃ xs, AV.simL ρ W noO xs cs ∧ s.has xs ∧ AV.inSL noO xs
theorem nums_of_cells {k : IntKind} : ∀ (cs : List Value), (∀ i (h : i < cs.length), ∃ n, cs[i] = .int k n ∧ (Lit.int k n).wf = true) → ∃ ws : List Int, cs = ws.map (Value.int k) ∧ ∀ w ∈ ws, (Lit.int k w).wf = true
  | [], _ => ⟨[], rfl, by simp⟩
  | c :: cs, h => by
    obtain ⟨n, h1, h2⟩ := h 0 (by simp)
    obtain ⟨ws, h3, h4⟩ := nums_of_cells cs fun i hi => by have := h (i + 1) (by simp; omega); rwa [List.getElem_cons_succ] at this
    rw [List.getElem_cons_zero] at h1
    refine ⟨n :: ws, by rw [h1, h3]; rfl, fun w hw => ?_⟩
    rcases List.mem_cons.1 hw with rfl | hw
    · exact h2
    · exact h4 w hw
theorem simL_flatten {O : Nat → Prop} : ∀ (n : Nat) (g : Nat → List AV) (c : Nat → List Value), (∀ i, i < n → AV.simL ρ W O (g i) (c i)) → AV.simL ρ W O ((List.range n).map g).flatten ((List.range n).map c).flatten
  | 0, _, _, _ => by simp [AV.simL]
  | n + 1, g, c, h => by
    rw [List.range_succ]
    simp only [List.map_append, List.flatten_append, List.map_cons, List.map_nil, List.flatten_cons, List.flatten_nil, List.append_nil]
    exact simL_append (simL_flatten n g c fun i hi => h i (by omega)) (h n (by omega))
theorem flatten_get {sz : Nat} {w : World} {a : Addr} : ∀ (n : Nat) (c : Nat → List Value), (∀ i, i < n → (c i).length = sz ∧ ∀ r cv, (c i)[r]? = some cv → w.cell? ((a.add (i * sz)).add r) = some cv) →
    ((List.range n).map c).flatten.length = n * sz ∧ ∀ j cv, ((List.range n).map c).flatten[j]? = some cv → w.cell? (a.add j) = some cv
  | 0, _, _ => by simp
  | n + 1, c, h => by
    obtain ⟨h1, h2⟩ := flatten_get n c fun i hi => h i (by omega)
    rw [List.range_succ]
    simp only [List.map_append, List.flatten_append, List.map_cons, List.map_nil, List.flatten_cons, List.flatten_nil, List.append_nil]
    obtain ⟨h3, h4⟩ := h n (by omega)
    refine ⟨by rw [List.length_append, h1, h3, Nat.succ_mul], fun j cv hj => ?_⟩
    rw [List.getElem?_append] at hj
    split at hj
    · exact h2 j cv hj
    · rename_i hlt
      rw [h1] at hj hlt
      have := h4 _ cv hj
      rw [add_add] at this
      rwa [show n * sz + (j - n * sz) = j by omega] at this
theorem hasL_of {ss : List Sh} {sh : TypeId → Option Sh} {cs : List Value} (ih : ∀ (t : TypeId) (s : Sh), sh t = some s → ∀ (m : Nat) (cs : List Value) (x : DataW H × List MemPlace), DataW.trod enc P W 0 sp true m t cs = some x → RdOK W ρ s cs) (m : Nat) :
    ∀ (fs : List Field) (o e : Nat) (ss : List Sh), flds P sh fs o = some (ss, e) → e = cs.length → (∀ (f : Field), f ∈ fs → ∃ x, DataW.trod enc P W 0 sp true m f.type ((cs.drop f.offset).take (P.cellsOf f.type)) = some x) →
      ∃ xs, AV.simL ρ W noO xs (cs.drop o) ∧ Sh.hasL ss xs ∧ AV.inSL noO xs
  | [], o, e, ss, h, he, _ => by
    simp only [flds, Option.some.injEq, Prod.mk.injEq] at h
    obtain ⟨rfl, rfl⟩ := h
    refine ⟨[], ?_, by simp [Sh.hasL], by simp [AV.inSL]⟩
    rw [he, List.drop_length]
    simp [AV.simL]
  | f :: r, o, e, ss, h, he, hf => by
    unfold flds at h
    split at h
    · rename_i ho
      split at h
      · rename_i s ss' e' h1 h2
        simp only [Option.some.injEq, Prod.mk.injEq] at h
        obtain ⟨rfl, rfl⟩ := h
        obtain ⟨x, hx⟩ := hf f List.mem_cons_self
        obtain ⟨a, g1, g2, g3⟩ := ih f.type s h1 m _ x hx
        obtain ⟨b, k1, k2, k3⟩ := hasL_of (ss := ss) ih m r _ _ _ h2 he fun f' hf' => hf f' (List.mem_cons_of_mem _ hf')
        rw [ho] at g1
        refine ⟨a ++ b, ?_, ⟨a, b, rfl, g2, k2⟩, by rw [inSL_iff] at *; intro x hx; exact (List.mem_append.1 hx).elim (g3 x) (k3 x)⟩
        have := simL_append g1 k1
        rwa [← List.drop_drop, List.take_append_drop] at this
      · cases h
    · cases h
theorem trod_has : ∀ (n : Nat) (t : TypeId) (s : Sh), shOf P n t = some s → ∀ (m : Nat) (cs : List Value) (x : DataW H × List MemPlace), DataW.trod enc P W 0 sp true m t cs = some x → RdOK W ρ s cs
  | 0, _, _, h, _, _, _, _ => by simp [shOf] at h
  | n + 1, t, s, h, m, cs, x, hx => by
    unfold shOf at h
    split at h
    · rename_i k hk
      split at h
      · simp only [Option.some.injEq] at h; subst h
        obtain ⟨v, rfl, _, hw⟩ := DataW.trod_int hk hx
        exact ⟨[.i k v], by simp [AV.simL, AV.sim], ⟨v, rfl, hw⟩, by simp [AV.inSL, AV.inS]⟩
      · cases h
    · rename_i hk
      simp only [Option.some.injEq] at h; subst h
      obtain ⟨v, rfl, _⟩ := DataW.trod_bool hk hx
      exact ⟨[.b v], by simp [AV.simL, AV.sim], ⟨v, rfl⟩, by simp [AV.inSL, AV.inS]⟩
    · rename_i hk
      simp only [Option.some.injEq] at h; subst h
      obtain ⟨v, rfl, _, hl⟩ := DataW.trod_string hk hx
      exact ⟨[.s v], by simp [AV.simL, AV.sim], ⟨v, rfl, hl⟩, by simp [AV.inSL, AV.inS]⟩
    · rename_i q e hk
      split at h
      · rename_i k he
        split at h
        · rename_i hc
          simp only [Option.some.injEq] at h; subst h
          obtain ⟨xs, m1, rfl, _, hl, hn, hel⟩ := DataW.trod_array hk hx
          rw [hc.2] at hl
          obtain ⟨ws, h1, h2⟩ := nums_of_cells (k := k) cs fun i hi => by
            have h3 := hel i (by omega)
            rw [hc.1, Nat.mul_one] at h3
            have h4 : xs[i]? = some (xs[i]'(by omega)) := List.getElem?_eq_getElem (by omega)
            rw [h4] at h3
            obtain ⟨v, h5, _, h6⟩ := DataW.trod_int he h3
            have h7 : cs.drop i = cs[i] :: cs.drop (i + 1) := List.drop_eq_getElem_cons hi
            rw [h7] at h5
            simp only [List.take_succ_cons, List.take_zero, List.cons.injEq, and_true] at h5
            exact ⟨v, h5, h6⟩
          subst h1
          exact ⟨I k ws, simL_I ws, ⟨ws, rfl, by simpa using hl, h2⟩, inSL_I _⟩
        · cases h
      · cases h
    · rename_i e hk
      simp only [Option.map_eq_some_iff] at h
      obtain ⟨s', hs', rfl⟩ := h
      rcases DataW.trod_slice hk hx with ⟨rfl, _⟩ | ⟨a, len, cap, elems, rest, m1, rfl, rfl, _, hb, hl, hm, hel, hg, _⟩
      · exact ⟨[.vs 0 []], by simp [AV.simL, AV.sim], ⟨0, [], rfl, rfl, Nat.zero_le _, by simp⟩, by simp [AV.inSL, AV.inS]⟩
      · have each : ∀ i, i < len → ∃ (ys : List AV) (c : List Value), c.length = P.cellsOf e ∧ (∀ r cv, c[r]? = some cv → W.cell? ((a.add (i * P.cellsOf e)).add r) = some cv) ∧ AV.simL ρ W noO ys c ∧ s'.has ys ∧ AV.inSL noO ys := by
          intro i hi
          have h1 := hg i hi
          rw [List.getElem?_eq_getElem (by omega), Option.bind_eq_some_iff] at h1
          obtain ⟨c, h2, h3⟩ := h1
          obtain ⟨ys, g1, g2, g3⟩ := trod_has n e s' hs' _ _ _ h3
          have h5 := World.cells?_some h2
          refine ⟨ys, c, h5.2.1, fun r cv hr => ?_, g1, g2, g3⟩
          have := h5.2.2 r (by rw [← h5.2.1]; exact (List.getElem?_eq_some_iff.1 hr).1)
          rw [this]; exact hr
        let g : Nat → List AV := fun i => if h : i < len then (each i h).choose else []
        let c : Nat → List Value := fun i => if h : i < len then (each i h).choose_spec.choose else []
        have hgc : ∀ i, i < len → (c i).length = P.cellsOf e ∧ (∀ r cv, (c i)[r]? = some cv → W.cell? ((a.add (i * P.cellsOf e)).add r) = some cv) ∧ AV.simL ρ W noO (g i) (c i) ∧ s'.has (g i) ∧ AV.inSL noO (g i) := by
          intro i hi
          have := (each i hi).choose_spec.choose_spec
          simp only [g, c, dif_pos hi]
          exact this
        obtain ⟨f1, f2⟩ := flatten_get (w := W) (a := a) len c fun i hi => ⟨(hgc i hi).1, (hgc i hi).2.1⟩
        refine ⟨[.vs len ((List.range len).map g).flatten], ?_, ⟨len, (List.range len).map g, rfl, by simp, by omega, ?_⟩, ?_⟩
        · simp only [AV.simL, AV.sim, and_true]
          exact ⟨some a, cap, ((List.range len).map c).flatten, rfl, hl, fun _ => ⟨a, rfl, fun h => h, f2⟩, simL_flatten len g c fun i hi => (hgc i hi).2.2.1⟩
        · intro y hy
          obtain ⟨i, hi, rfl⟩ := List.mem_map.1 hy
          have hi := List.mem_range.1 hi
          exact ⟨by rw [← simL_length (hgc i hi).2.2.1]; exact (hgc i hi).1, (hgc i hi).2.2.2.1⟩
        · simp only [AV.inSL, AV.inS, and_true]
          rw [inSL_iff]
          intro y hy
          obtain ⟨l, hl1, hl2⟩ := List.mem_flatten.1 hy
          obtain ⟨i, hi, rfl⟩ := List.mem_map.1 hl1
          exact inSL_iff.1 (hgc i (List.mem_range.1 hi)).2.2.2.2 y hl2
    · rename_i fs hk
      split at h
      · rename_i ss e hf
        split at h
        · rename_i he
          simp only [Option.some.injEq] at h; subst h
          obtain ⟨xs, m1, rfl, _, hl, hn, hel⟩ := DataW.trod_struct hk hx
          obtain ⟨ys, g1, g2, g3⟩ := hasL_of (ss := ss) (cs := cs) (fun t s hs => trod_has n t s hs) m1 fs.toList 0 e ss hf (by rw [he, hl]) fun f hf => by
            obtain ⟨i, hi⟩ := List.getElem?_of_mem hf
            have hi' : fs[i]? = some f := by simpa using hi
            have hlt : i < xs.length := by rw [hn]; exact (Array.getElem?_eq_some_iff.1 hi').1
            exact ⟨xs[i], by rw [hel i f hi', List.getElem?_eq_getElem hlt]⟩
          exact ⟨ys, by simpa using g1, g2, g3⟩
        · cases h
      · cases h
    · cases h
def Sh.arg : Sh → AV → Prop
  | .nums n k, v => ∃ ws : List Int, v = .ag (I k ws) ∧ ws.length = n ∧ ∀ w ∈ ws, (Lit.int k w).wf = true
  | .st fs, v => ∃ xs, v = .ag xs ∧ Sh.hasL fs xs
  | s, v => s.has [v]
theorem trod_arg {r : Reach} {base n : Nat} {t : TypeId} {s : Sh} {v : Value} {d : DataW H} {p : List MemPlace} (h : shOf P n t = some s) (hv : Value.okWide P W r base t v) (hd : DataW.Trod enc P W 0 sp true t v d p) :
    ∃ av, av.sim ρ W noO v ∧ s.arg av ∧ av.inS noO := by
  obtain ⟨m, hm⟩ := hd
  obtain ⟨xs, h1, h2, h3⟩ := trod_has (ρ := ρ) n t s h m _ _ hm
  have one : ∀ (hc : v.cells.toList = [v]), ∃ av, xs = [av] ∧ av.sim ρ W noO v ∧ av.inS noO := by
    intro hc
    rw [hc] at h1
    match xs, h1, h3 with
    | [x], h1, h3 => simp only [AV.simL, AV.inSL, and_true] at h1 h3; exact ⟨x, rfl, h1, h3⟩
    | [], h1, _ => simp [AV.simL] at h1
    | _ :: _ :: _, h1, _ => simp [AV.simL] at h1
  cases n with
  | zero => simp [shOf] at h
  | succ n =>
  unfold shOf at h
  split at h
  · rename_i k hk
    split at h
    · simp only [Option.some.injEq] at h; subst h
      obtain ⟨z, rfl⟩ := okWide_int hk hv
      obtain ⟨av, rfl, g1, g2⟩ := one rfl
      exact ⟨av, g1, h2, g2⟩
    · cases h
  · rename_i hk
    simp only [Option.some.injEq] at h; subst h
    obtain ⟨z, rfl⟩ := okWide_bool hk hv
    obtain ⟨av, rfl, g1, g2⟩ := one rfl
    exact ⟨av, g1, h2, g2⟩
  · rename_i hk
    simp only [Option.some.injEq] at h; subst h
    obtain ⟨z, rfl⟩ := okWide_string hk hv
    obtain ⟨av, rfl, g1, g2⟩ := one rfl
    exact ⟨av, g1, h2, g2⟩
  · rename_i q e hk
    split at h
    · split at h
      · simp only [Option.some.injEq] at h; subst h
        obtain ⟨cs, rfl, _, _⟩ : ∃ cs, v = .agg cs ∧ cs.size = P.cellsOf t ∧ Row.okWide P W r base t cs := by unfold Value.okWide at hv; rw [hk] at hv; exact hv
        obtain ⟨ws, rfl, g1, g2⟩ := h2
        exact ⟨.ag (I _ ws), by simp only [AV.sim]; exact ⟨cs.toList, by simp, h1⟩, ⟨ws, rfl, g1, g2⟩, by simp only [AV.inS]; exact inSL_I _⟩
      · cases h
    · cases h
  · rename_i e hk
    simp only [Option.map_eq_some_iff] at h
    obtain ⟨s', hs', rfl⟩ := h
    obtain ⟨a, len, cap, rfl⟩ := okWide_slice hk hv
    obtain ⟨av, rfl, g1, g2⟩ := one rfl
    exact ⟨av, g1, h2, g2⟩
  · rename_i fs hk
    split at h
    · split at h
      · simp only [Option.some.injEq] at h; subst h
        obtain ⟨cs, rfl, _, _⟩ : ∃ cs, v = .agg cs ∧ cs.size = P.cellsOf t ∧ Row.okWide P W r base t cs := by unfold Value.okWide at hv; rw [hk] at hv; exact hv
        exact ⟨.ag xs, by simp only [AV.sim]; exact ⟨cs.toList, by simp, h1⟩, ⟨xs, rfl, h2⟩, by simpa only [AV.inS] using h3⟩
      · cases h
    · cases h
  · cases h
def argsOf : List Sh → List AV → Prop
  | [], vs => vs = []
  | s :: r, vs => ∃ v q, vs = v :: q ∧ s.arg v ∧ argsOf r q
theorem trodAll_args {r : Reach} {base : Nat} : ∀ {ts : List TypeId} {ss : List Sh} {vs : List Value} {ds : List (DataW H)} {ps : List MemPlace}, ts.map (shOf P 8) = ss.map some → (∀ (j : Nat) t v, ts[j]? = some t → vs[j]? = some v → Value.okWide P W r base t v) →
    DataW.TrodAll enc P W 0 sp true ts vs ds ps → ∃ avs, AV.simL ρ W noO avs vs ∧ argsOf ss avs ∧ AV.inSL noO avs
  | [], ss, vs, ds, ps, hs, _, h => by
    obtain ⟨rfl, rfl, rfl⟩ := trodAll_nil h
    cases ss with
    | nil => exact ⟨[], by simp [AV.simL], by simp [argsOf], by simp [AV.inSL]⟩
    | cons s ss => simp at hs
  | t :: ts, ss, vs, ds, ps, hs, hv, h => by
    obtain ⟨v, vs', d, ds', p, q, rfl, rfl, rfl, h1, h2⟩ := trodAll_cons h
    cases ss with
    | nil => simp at hs
    | cons s ss =>
      simp only [List.map_cons, List.cons.injEq] at hs
      obtain ⟨av, g1, g2, g3⟩ := trod_arg (ρ := ρ) hs.1 (hv 0 t v rfl rfl) h1
      obtain ⟨avs, k1, k2, k3⟩ := trodAll_args hs.2 (fun j t v ht hv' => hv (j + 1) t v (by simpa using ht) (by simpa using hv')) h2
      exact ⟨av :: avs, by simp only [AV.simL]; exact ⟨g1, k1⟩, ⟨av, avs, rfl, g2, k2⟩, by simp only [AV.inSL]; exact ⟨g3, k3⟩⟩
theorem trodAll_stays {W' : World} {sp' : Nat → Bool} (hl : laidOutB P = true) : ∀ {ts : List TypeId} {vs : List Value} {ds : List (DataW H)} {ps : List MemPlace}, (∀ t ∈ ts, P.readableRec t = true ∧ t < P.types.size) →
    DataW.TrodAll enc P W 0 (fun _ => true) true ts vs ds ps → (∀ p ∈ ps, W.sameAt W' p) → (∀ p ∈ ps, sp' p.block = true) → DataW.TrodAll enc P W' 0 sp' true ts vs ds ps
  | [], vs, ds, ps, _, h, _, _ => by
    obtain ⟨rfl, rfl, rfl⟩ := trodAll_nil h
    exact trodAll_mk0
  | t :: ts, vs, ds, ps, hr, h, hs, hp => by
    obtain ⟨v, vs', d, ds', p, q, rfl, rfl, rfl, h1, h2⟩ := trodAll_cons h
    obtain ⟨r1, r2⟩ := hr t List.mem_cons_self
    exact ⟨p, q, Trod_stays hl r1 r2 h1 (fun x hx => hs x (List.mem_append_left _ hx)) (fun x hx => hp x (List.mem_append_left _ hx)),
      trodAll_stays hl (fun t ht => hr t (List.mem_cons_of_mem _ ht)) h2 (fun x hx => hs x (List.mem_append_right _ hx)) (fun x hx => hp x (List.mem_append_right _ hx)), rfl⟩
theorem Fr.keptBut {W W' : World} (h : Fr W noO W') (may : MemPlace → Prop) : W.keptBut W' may := by
  refine ⟨h.os, h.output, fun i hi => ?_⟩
  have e := h.block i hi (fun h => h)
  cases hw : W.heap[i]? with
  | none => rw [e, hw]
  | some o => rw [e, hw]; cases o <;> simp
theorem post_true {f : Func} {s : ChangeSpec} {bt : TypeId} {W' : World} {args : Array Value} {ds gs : List (DataW H)} {before : List MemPlace} (hlaid : laidOutB P = true) (hread : ∀ t ∈ f.params.toList, P.readableRec t = true ∧ t < P.types.size)
    (hvars : s.vars = []) (hres : f.resultTypes = #[bt]) (hbt : P.underlying bt = some .bool) (hspec : ∀ ds : List (DataW H), ds.length = f.params.toList.length → s.fn H ds = { results := [.lit (.bool true)], args := ds })
    (hW : DataW.Whole enc P f.params.toList s.vars false W args.toList ds gs before) (hfr : Fr W noO W') : s.post enc P f false true false false W args (.bool true) W' := by
  have hlt := hW.lt
  have hW2 := hW
  obtain ⟨p, q, hA, hV, rfl, hz, _⟩ := hW
  rw [hvars] at hV
  obtain ⟨rfl, rfl⟩ := trodVars_none hV
  simp only [List.append_nil] at hlt hz
  have hlen : ds.length = f.params.toList.length := by
    have : ∀ {ts : List TypeId} {vs : List Value} {ds : List (DataW H)} {ps : List MemPlace}, DataW.TrodAll enc P W 0 (fun _ => true) true ts vs ds ps → ds.length = ts.length := by
      intro ts
      induction ts with
      | nil => intro vs ds ps h; obtain ⟨_, rfl, _⟩ := trodAll_nil h; rfl
      | cons t ts ih => intro vs ds ps h; obtain ⟨v, vs', d, ds', p, q, rfl, rfl, rfl, _, h2⟩ := trodAll_cons h; simp [ih h2]
    exact this hA
  have hs2 : s.fn H (ds ++ []) = { results := [.lit (.bool true)], args := ds } := by rw [List.append_nil]; exact hspec ds hlen
  have hsame : ∀ x ∈ p, W.sameAt W' x := by
    intro x hx
    have hb := hlt x hx
    have := hfr.block x.block hb (fun h => h)
    cases x with
    | cell b off => exact World.cell?_of_block (a := ⟨b, off, none⟩) this
    | map b => exact this
  have hargs : ∀ sp : Nat → Bool, (∀ x ∈ p, sp x.block = true) → DataW.TrodAll enc P W' 0 sp true f.params.toList args.toList ds p := fun sp hp => trodAll_stays hlaid hread hA hsame hp
  have hold : ∀ x ∈ p, (fun b => decide (b < W.heap.size)) x.block = true := fun x hx => by simpa using hlt x hx
  have hresT : ∀ (b : Nat) (sp : Nat → Bool) (hd : Bool), DataW.TrodAll enc P W' b sp hd f.resultTypes.toList ((Value.bool true).resultList f.resultTypes.size) [.lit (.bool true)] [] := by
    intro b sp hd
    rw [hres]
    exact trodAll_mk1 (shut_bool hbt true)
  have hV' : ∀ sp, DataW.TrodVars enc P W' sp s.vars [] [] := by intro sp; rw [hvars]; rfl
  have hA2 : ∀ sp : Nat → Bool, (∀ x ∈ p, sp x.block = true) → DataW.TrodAll enc P W' 0 sp true f.params.toList args.toList (s.fn H (ds ++ [])).args p := fun sp hp => by rw [hs2]; exact hargs sp hp
  have hR2 : ∀ (b : Nat) (sp : Nat → Bool) (hd : Bool), DataW.TrodAll enc P W' b sp hd f.resultTypes.toList ((Value.bool true).resultList f.resultTypes.size) (s.fn H (ds ++ [])).results [] := fun b sp hd => by rw [hs2]; exact hresT b sp hd
  have hV2 : ∀ sp, DataW.TrodVars enc P W' sp s.vars (s.fn H (ds ++ [])).vars [] := fun sp => by rw [hs2]; exact hV' sp
  refine ⟨ds, [], p ++ [], [], p, [], hW2, hR2 _ _ _, hA2 _ hold, hV2 _, World.keptBut_mono (fun x hx => ⟨hx, Or.inr (by simpa using hx)⟩) (hfr.keptBut _), fun _ => ?_⟩
  refine ⟨ok_one hres rfl (okWide_bool_mk hbt true), _, _, ([] ++ p) ++ [], ⟨[] ++ p, [], trodAll_append (hA2 _ (fun _ _ => rfl)) (hR2 _ _ _), hV2 _, rfl, ?_, fun h => by cases h⟩, ?_⟩
  · intro b off hp
    simp only [List.nil_append, List.append_nil] at hp
    have hb := hlt _ hp
    have e : W'.frozen? ⟨b, off, none⟩ = W.frozen? ⟨b, off, none⟩ := by
      unfold World.frozen?
      have := hfr.block b hb (fun h => h)
      simp only at this ⊢
      rw [this]
    rw [e]; exact hz b off hp
  · intro x hp _
    simpa using hp
end
def GOK (W : World) (G : List (Nat × AV)) : Prop := ∀ (ρ : Nat → Value) t av, (t, av) ∈ G → av.sim ρ W noO (.pointer (some ⟨t - 1000000, 0, none⟩))
theorem calls_of_fnc {P : Program} {f : FuncId} {G : List (Nat × AV)} {avs : List AV} {W : World} {args : Array Value} (h : FnC P f G avs [] [] (.b true)) (hG : GOK W G) (hs : AV.simL (fun _ => default) W noO avs args.toList) :
    Calls P f args W fun e W' => e = .returned (.bool true) ∧ Fr W noO W' := by
  have hO : (fun b => (fun _ : Nat => False) b ∨ owned (fun _ => default) (lk ([] : List (Nat × Blk))) b) = noO := by
    funext b
    simp [owned, lk]
  have := h.sem Fence.wide 0 (fun _ => False) (fun _ => default) W args.toList (fun _ => trivial) rfl rfl (by rw [hO]; exact fun t av hm => hG _ t av hm) (by rw [hO]; exact hs)
    ⟨fun k b hk => by simp [lk] at hk, fun k k' b hk => by simp [lk] at hk, fun b ⟨k, c, hk, _⟩ => by simp [lk] at hk⟩ (fun _ h => h.elim)
  refine (callsIn_wide.1 this).mono ?_
  rintro e W' ⟨ρ', cv, rfl, _, hfr, _, _, hv⟩
  simp only [AV.sim] at hv
  subst hv
  refine ⟨rfl, hfr.mono ?_⟩
  rintro b ⟨k, c, hk, _⟩
  simp [lk] at hk
theorem calls_law {H : Type} {enc : TypeId × Value → H} {P : Program} {f : FuncId} {fn : Func} {s : ChangeSpec} {bt : TypeId} (hlaid : laidOutB P = true) (hread : ∀ t ∈ fn.params.toList, P.readableRec t = true ∧ t < P.types.size) (hvars : s.vars = [])
    (hres : fn.resultTypes = #[bt]) (hbt : P.underlying bt = some .bool) {ss : List Sh} (hsh : fn.params.toList.map (shOf P 8) = ss.map some)
    (hspec : ∀ ds : List (DataW H), ds.length = fn.params.toList.length → s.fn H ds = { results := [.lit (.bool true)], args := ds }) {W : World} {base : Nat} {args : Array Value} {ds gs : List (DataW H)} {before : List MemPlace}
    (hval : ∀ (j : Nat) t v, fn.params[j]? = some t → args[j]? = some v → Value.okWide P W .any base t v) (hW : DataW.Whole enc P fn.params.toList s.vars false W args.toList ds gs before)
    (hlaw : ∀ avs, argsOf ss avs → AV.inSL noO avs → ∃ G, GOK W G ∧ FnC P f G avs [] [] (.b true)) :
    Calls P f args W fun e W' => ∃ v, e = .returned v ∧ s.post enc P fn false true false false W args v W' := by
  have hA := hW
  obtain ⟨p, q, hA, hV, rfl, hz, _⟩ := hA
  obtain ⟨avs, h1, h2, h3⟩ := trodAll_args (ρ := fun _ => default) hsh (fun j t v ht hv => hval j t v (by simpa using ht) (by simpa using hv)) hA
  obtain ⟨G, hG, hc⟩ := hlaw avs h2 h3
  refine (calls_of_fnc hc hG h1).mono ?_
  rintro e W' ⟨rfl, hfr⟩
  exact ⟨_, rfl, post_true hlaid hread hvars hres hbt hspec hW hfr⟩
theorem laid_nums {P : Program} {W : World} : ∀ {l : List (String × DataW Unit)} {ps : List MemPlace}, DataW.LaidVars P W l ps → ∀ {n : String} {k : IntKind} {ws : List Int} {g : Nat} {t e : TypeId}, (n, .agg (ws.map fun w => .lit (.int k w))) ∈ l →
    P.globalNamed n = some g → (P.globals[g]?).map (·.type) = some t → P.underlying t = some (.array ws.length e) → P.underlying e = some (.int k) → P.cellsOf e = 1 → P.cellsOf t = ws.length →
    ∀ (ρ : Nat → Value), (AV.rp (I k ws)).sim ρ W noO (.pointer (some ⟨g, 0, none⟩))
  | [], _, _, _, _, _, _, _, _, hm, _, _, _, _, _, _, _ => by simp at hm
  | (n', d) :: r, ps, h, n, k, ws, g, t, e, hm, hg, ht, hu, he, hce, hct, ρ => by
    obtain ⟨g', t', cs, fuel, p, q, h1, h2, h3, h4, h5, _⟩ := h
    rcases List.mem_cons.1 hm with hm | hm
    · cases hm
      obtain rfl := Option.some.inj (hg.symm.trans h1)
      obtain rfl := Option.some.inj (ht.symm.trans h2)
      obtain ⟨xs, m1, rfl, hx, hl, hn, hel⟩ := DataW.trod_array hu h4
      simp only [Prod.mk.injEq, DataW.agg.injEq] at hx
      have hc : ∀ i, i < ws.length → cs[i]? = some (.int k (ws.getD i 0)) := by
        intro i hi
        have h6 := hel i hi
        rw [hce, Nat.mul_one, List.getElem?_eq_getElem (by omega)] at h6
        obtain ⟨z, h7, h8, _⟩ := DataW.trod_int he h6
        have h9 : (ws.map fun w => (DataW.lit (Lit.int k w) : DataW Unit))[i]? = (xs.map (·.1))[i]? := by rw [hx.1]
        rw [List.getElem?_map, List.getElem?_map, List.getElem?_eq_getElem hi, List.getElem?_eq_getElem (by omega)] at h9
        rw [h8] at h9
        simp only [Option.map_some, Option.some.injEq, DataW.lit.injEq, Lit.int.injEq, true_and] at h9
        have hlt : i < cs.toList.length := by rw [hl, hct]; exact hi
        rw [List.drop_eq_getElem_cons hlt] at h7
        simp only [List.take_succ_cons, List.take_zero, List.cons.injEq, and_true] at h7
        have h10 : cs.toList[i]? = some (.int k z) := by rw [List.getElem?_eq_getElem hlt, h7]
        rw [List.getD_eq_getElem?_getD, List.getElem?_eq_getElem hi, Option.getD_some, h9]
        simpa using h10
      simp only [AV.sim]
      refine ⟨⟨g, 0, none⟩, ws.map (Value.int k), rfl, fun _ => ⟨fun h => h, fun j cv hj => ?_⟩, simL_I ws⟩
      rw [Go.Sk.add_none, Nat.zero_add, World.var?_cell h1 h3 j]
      have hj2 : j < ws.length := by have := (List.getElem?_eq_some_iff.1 hj).1; simpa using this
      rw [hc j hj2]
      rw [List.getElem?_map, List.getElem?_eq_getElem hj2] at hj
      rw [List.getD_eq_getElem?_getD, List.getElem?_eq_getElem hj2]
      simpa using hj
    · exact laid_nums h5 hm hg ht hu he hce hct ρ
end Go.Sk
namespace Go.Sk
open Go.RowKit
def bs (l : List Int) : ByteArray := l.foldl (fun r n => r.push (UInt8.ofNat n.toNat)) ByteArray.empty
theorem run_b2s {P : Program} {w : World} {a : Option Addr} {n cap : Nat} {ns : List Int} (hn : ns.length = n) (hc : 0 < n → ∃ ad, a = some ad ∧ ∀ j u, (ns.map (Value.int .u8))[j]? = some u → w.cell? (ad.add j) = some u) :
    (Conv.bytesToString (.slice a n cap)).run P w = .ok (.string (bs ns)) w := by
  cases a with
  | none =>
    have : n = 0 := by
      rcases Nat.eq_zero_or_pos n with h | h
      · exact h
      · obtain ⟨ad, h1, _⟩ := hc h; cases h1
    subst this
    have : ns = [] := List.eq_nil_of_length_eq_zero hn
    subst this
    rfl
  | some ad =>
    have hl : (loadCells ad n).run P w = .ok (ns.map (Value.int .u8)).toArray w := by
      rcases Nat.eq_zero_or_pos n with h | h
      · subst h
        have : ns = [] := List.eq_nil_of_length_eq_zero hn
        subst this
        rfl
      · obtain ⟨ad', h1, h2⟩ := hc h
        cases h1
        have := run_loadCells_list (P := P) w ad _ h2
        rwa [List.length_map, hn] at this
    exact run_bytesToString w ad n cap ns hl
section
variable {C : Ctx} {N : Nat} {E : List (Nat × AV)} {H : List (Nat × Blk)} {d : Nat} {ty : TypeId} {ps : String} {af : Array Edge} {g : Option (Nat × Bool)}
theorem ox_b2s {x : Operand} {av : AV} {n : Nat} {xs : List AV} {l : List Int} {p : List (Nat × AV)} {ro : List (Nat × Blk)} {st dt e : TypeId} (hC : C.Ok) (hx : OpV E x av p) (hs : Sl H av n xs ro) (hl : xs.take n = I .u8 l) (hn : l.length = n)
    (hu : C.P.underlying st = some (.slice e)) (he : C.P.underlying e = some (.int .u8)) (ht : C.P.underlying dt = some .string) (hd : Nat.blt d C.T = true) (hd6 : Nat.blt d 1000000 = true) :
    OpC C ⟨N, E, H⟩ ⟨some d, .convert st dt x, ty, ps, af, g⟩ ⟨⟨some d, .convert st dt x, ty, ps, af, g⟩, false, p, ro, [], [], .s (bs l)⟩ ⟨N, (d, .s (bs l)) :: E, H⟩ := by
  refine oc_pure hC rfl hd hd6 (fun _ h => by cases h) hx.pre hs.ro (fun ρ w O a hp hro => ⟨.string (bs l), ?_, by simp [AV.sim]⟩) (fun S _ _ => inS_s)
  obtain ⟨ad, cap, cvs, h1, h2, h3, h4⟩ := hs.sim (hx.sim hp) hro
  have h5 := simL_take n h3
  rw [hl] at h5
  have h6 := simL_I_eq h5
  have hcells : 0 < n → ∃ ad', ad = some ad' ∧ ∀ j u, (l.map (Value.int .u8))[j]? = some u → w.cell? (ad'.add j) = some u := by
    intro hpos
    have hxs : 0 < xs.length := by
      have := congrArg List.length hl
      simp at this; omega
    obtain ⟨ad', h7, h8⟩ := h4 hpos hxs
    refine ⟨ad', h7, fun j u hj => ?_⟩
    rw [← h6, List.getElem?_take] at hj
    split at hj
    · exact h8 j u hj
    · cases hj
  have key : (convert st dt (.slice ad n cap)).run C.P w = .ok (.string (bs l)) w := by
   rw [run_convert_bytes_string w st dt e ad n cap hu he ht]
   exact run_b2s hn hcells
  simp only [execOp, h1, Sem.run_bind, key, Result.andThen_ok, Sem.run_pure]
theorem take_allI {k : IntKind} {l : List Int} {n : Nat} (h : l.length = n) : (I k l).take n = I k l := List.take_of_length_le (by simp [h])
theorem take_takeI {k : IntKind} {l : List Int} {n : Nat} : (I k l).take n = I k (l.take n) := by simp [List.map_take]
end
mutual
def Sh.plain : Sh → Prop
  | .int _ => True
  | .nums _ _ => True
  | .st fs => Sh.plainL fs
  | _ => False
def Sh.plainL : List Sh → Prop
  | [] => True
  | s :: r => Sh.plain s ∧ Sh.plainL r
end
def litOf : AV → Lit
  | .i k n => .int k n
  | _ => .bool false
theorem hasL_lits {P : Program} {ρ : Nat → Value} {w : World} {O : Nat → Prop} {sh : TypeId → Option Sh} {n : Nat} (ih : ∀ (t : TypeId) (s : Sh), sh t = some s → P.keyTypeAt n t = true → s.plain → ∀ (xs : List AV) (cs : List Value), s.has xs → AV.simL ρ w O xs cs → P.keyLits n t cs = some (xs.map litOf) ∧ cs.length = P.cellsOf t)
    (cs : List Value) : ∀ (fs : List Field) (o e : Nat) (ss : List Sh) (xs : List AV), flds P sh fs o = some (ss, e) → (∀ f ∈ fs, P.keyTypeAt n f.type = true) → Sh.plainL ss → Sh.hasL ss xs → AV.simL ρ w O xs (cs.drop o) →
      ∃ r, fs.mapM (fun f => P.keyLits n f.type ((cs.drop f.offset).take (P.cellsOf f.type))) = some r ∧ r.flatten = xs.map litOf ∧ e = o + xs.length
  | [], o, e, ss, xs, h, _, _, hx, _ => by
    simp only [flds, Option.some.injEq, Prod.mk.injEq] at h
    obtain ⟨rfl, rfl⟩ := h
    simp only [Sh.hasL] at hx
    subst hx
    exact ⟨[], rfl, rfl, rfl⟩
  | f :: r, o, e, ss, xs, h, hkt, hp, hx, hs => by
    unfold flds at h
    split at h
    · rename_i ho
      split at h
      · rename_i s ss' e' h1 h2
        simp only [Option.some.injEq, Prod.mk.injEq] at h
        obtain ⟨rfl, rfl⟩ := h
        simp only [Sh.hasL] at hx
        obtain ⟨a, b, rfl, ha, hb⟩ := hx
        simp only [Sh.plainL] at hp
        have hl := simL_length hs
        have ha1 : AV.simL ρ w O a ((cs.drop o).take a.length) := by have := simL_take a.length hs; rwa [List.take_left] at this
        have hb1 : AV.simL ρ w O b ((cs.drop o).drop a.length) := by have := simL_drop a.length hs; rwa [List.drop_left] at this
        obtain ⟨g1, g2⟩ := ih f.type s h1 (hkt f List.mem_cons_self) hp.1 a _ ha ha1
        have g3 : a.length = P.cellsOf f.type := by rw [← g2, simL_length ha1]
        rw [List.drop_drop, g3] at hb1
        obtain ⟨rs, k1, k2, k3⟩ := hasL_lits ih cs r _ _ _ b h2 (fun f hf => hkt f (List.mem_cons_of_mem _ hf)) hp.2 hb hb1
        refine ⟨a.map litOf :: rs, ?_, by rw [List.flatten_cons, k2, List.map_append], by rw [k3, List.length_append, g3]; omega⟩
        rw [List.mapM_cons, ho, ← g3, g1, k1]
        rfl
      · cases h
    · cases h
theorem lits_nums {P : Program} {k : IntKind} {e : TypeId} {n : Nat} (he : P.underlying e = some (.int k)) : ∀ (ws : List Int) (pre : List Int), (∀ w ∈ ws, (Lit.int k w).wf = true) →
    (List.range' pre.length ws.length).mapM (fun i => P.keyLits (n + 1) e ((((pre ++ ws).map (Value.int k)).drop i).take 1)) = some (ws.map fun w => [Lit.int k w])
  | [], _, _ => rfl
  | w :: ws, pre, h => by
    have h1 := h w List.mem_cons_self
    have ih := lits_nums (P := P) (n := n) he ws (pre ++ [w]) fun x hx => h x (List.mem_cons_of_mem _ hx)
    rw [List.length_append, List.length_singleton, List.append_assoc] at ih
    rw [List.length_cons, List.range'_succ, List.mapM_cons]
    have e1 : (((pre ++ w :: ws).map (Value.int k)).drop pre.length).take 1 = [.int k w] := by
      rw [List.map_append, List.drop_append_of_le_length (by simp), List.drop_of_length_le (by simp)]
      rfl
    have e2 : P.keyLits (n + 1) e [.int k w] = some [.int k w] := by simp [Program.keyLits, he, h1]
    rw [e1, e2]
    have e3 : pre ++ ([w] ++ ws) = pre ++ w :: ws := rfl
    rw [e3] at ih
    simp only [bind, Option.bind_some, ih, pure, List.map_cons]
theorem keyLits_of {P : Program} {ρ : Nat → Value} {w : World} {O : Nat → Prop} : ∀ (n : Nat) (t : TypeId) (s : Sh), shOf P n t = some s → P.keyTypeAt n t = true → s.plain → ∀ (xs : List AV) (cs : List Value), s.has xs → AV.simL ρ w O xs cs → P.keyLits n t cs = some (xs.map litOf) ∧ cs.length = P.cellsOf t
  | 0, _, _, h, _, _, _, _, _, _ => by simp [shOf] at h
  | n + 1, t, s, h, hkt, hp, xs, cs, hx, hs => by
    unfold shOf at h
    unfold Program.keyTypeAt at hkt
    split at h
    · rename_i k hk
      split at h
      · rename_i hc1
        simp only [Option.some.injEq] at h; subst h
        obtain ⟨v, rfl, hw⟩ := hx
        have hc : cs = [.int k v] := simL_I_eq (xs := [v]) hs
        subst hc
        exact ⟨by simp [Program.keyLits, hk, hw, litOf], by rw [hc1]; rfl⟩
      · cases h
    · simp only [Option.some.injEq] at h; subst h; simp [Sh.plain] at hp
    · simp only [Option.some.injEq] at h; subst h; simp [Sh.plain] at hp
    · rename_i q e hk
      split at h
      · rename_i k he
        split at h
        · rename_i hc
          simp only [Option.some.injEq] at h; subst h
          obtain ⟨ws, rfl, hl, hw⟩ := hx
          have hcs := simL_I_eq hs
          subst hcs
          rw [hk] at hkt
          simp only at hkt
          cases n with
          | zero => simp [Program.keyTypeAt] at hkt
          | succ n =>
            refine ⟨?_, by rw [List.length_map, hl, hc.2]⟩
            have := lits_nums (P := P) (n := n) he ws [] hw
            simp only [List.nil_append, List.length_nil, hl] at this
            unfold Program.keyLits
            simp only [hk, List.length_map, hl, hc.2, if_true, hc.1, Nat.mul_one]
            rw [List.range_eq_range', this]
            simp only [Option.map_some, List.map_map]
            congr 1
            clear this hs hw hl
            induction ws with
            | nil => rfl
            | cons a r ih => simp only [List.map_cons, List.flatten_cons, List.singleton_append, Function.comp, litOf]; rw [ih]
        · cases h
      · cases h
    · simp only [Option.map_eq_some_iff] at h
      obtain ⟨s', _, rfl⟩ := h
      simp [Sh.plain] at hp
    · rename_i fs hk
      split at h
      · rename_i ss e hf
        split at h
        · rename_i he
          simp only [Option.some.injEq] at h; subst h
          rw [hk] at hkt
          simp only [Bool.and_eq_true, Array.all_eq_true_iff_forall_mem] at hkt
          have hs0 : AV.simL ρ w O xs (cs.drop 0) := hs
          obtain ⟨r, g1, g2, g3⟩ := hasL_lits (fun t s => keyLits_of n t s) cs fs.toList 0 e ss xs hf (fun f hf => (hkt.1.1 f (by simpa using hf)).2) hp hx hs0
          have hl := simL_length hs
          have hlen : cs.length = P.cellsOf t := by rw [hl, ← he]; omega
          refine ⟨?_, hlen⟩
          have hn : fs.all (·.name != "_") = true := by
            rw [Array.all_eq_true_iff_forall_mem]
            exact fun f hf => (hkt.1.1 f hf).1
          unfold Program.keyLits
          simp only [hk, hlen, hn, and_self, if_true, g1, Option.map_some, g2]
        · cases h
      · cases h
    · cases h
section
variable {C : Ctx} {N : Nat} {E : List (Nat × AV)} {H : List (Nat × Blk)} {d : Nat} {ty : TypeId} {ps : String} {af : Array Edge} {g : Option (Nat × Bool)}
theorem ox_eqS {op : BinOp} {x y : Operand} {xs ys : List AV} {s : Sh} {r : Bool} {p q : List (Nat × AV)} {xt yt : TypeId} (hC : C.Ok) (hop : op = .eql ∨ op = .neq) (hx : OpV E x (.ag xs) p) (hy : OpV E y (.ag ys) q)
    (hsh : shOf C.P 8 xt = some s) (hkt : C.P.keyTypeAt 8 xt = true) (hagg : shp C.P xt = some (true, C.P.cellsOf xt)) (hg : C.P.eqGuardType C.P.depth xt = false) (hpl : s.plain) (hsx : s.has xs) (hsy : s.has ys) (hr : r = true ↔ (xs.map litOf = ys.map litOf ↔ op = .eql))
    (hd : Nat.blt d C.T = true) (hd6 : Nat.blt d 1000000 = true) :
    OpC C ⟨N, E, H⟩ ⟨some d, .binOp op xt x y yt, ty, ps, af, g⟩ ⟨⟨some d, .binOp op xt x y yt, ty, ps, af, g⟩, false, p ++ q, [], [], [], .b r⟩ ⟨N, (d, .b r) :: E, H⟩ := by
  refine oc_pure hC rfl hd hd6 (fun _ h => by cases h) (fun t av hm => ?_) (by simp) (fun ρ w O A hp _ => ⟨.bool r, ?_, by simp only [AV.sim]⟩) (fun S _ _ => inS_b)
  · rcases List.mem_append.1 hm with h | h
    · exact hx.pre t av h
    · exact hy.pre t av h
  · have h1 := hx.sim (fun t v hm => hp t v (List.mem_append_left _ hm))
    have h2 := hy.sim (fun t v hm => hp t v (List.mem_append_right _ hm))
    simp only [AV.sim] at h1 h2
    obtain ⟨us, h3, h4⟩ := h1
    obtain ⟨vs, h5, h6⟩ := h2
    obtain ⟨k1, k2⟩ := keyLits_of 8 xt s hsh hkt hpl xs us hsx h4
    obtain ⟨k3, k4⟩ := keyLits_of 8 xt s hsh hkt hpl ys vs hsy h6
    have hform : ∀ (l : List Value), l.length = C.P.cellsOf xt → (Value.agg l.toArray).formed C.P xt = true := by
      intro l hl
      unfold shp at hagg
      unfold Value.formed
      cases hu : C.P.underlying xt with
      | none => simp [hu] at hagg
      | some kd =>
        cases hi : C.P.info? xt with
        | none => cases kd <;> simp [hu, hi] at hagg
        | some i => cases kd <;> simp_all
    obtain ⟨r', g1, g2⟩ := run_equalIn_deep 9992 8 xt hkt w 8 8 (.agg us.toArray) (.agg vs.toArray) _ _ (hform us k2) (hform vs k4) (by simpa [Value.cells] using k1) (by simpa [Value.cells] using k3)
    have hgd : (eqGuard op xt x y (.agg us.toArray) (.agg vs.toArray)).run C.P w = .ok () w := by
      unfold eqGuard
      rcases hop with rfl | rfl <;> simp [hg]
    have g1' : (Op.equalIn 10000 xt (.agg us.toArray) (.agg vs.toArray)).run C.P w = .ok r' w := g1
    simp only [execOp, h3, h5, Sem.run_bind, hgd, Result.andThen_ok]
    rcases hop with rfl | rfl
    · rw [run_eql_struct, g1']
      have : r' = r := by rw [Bool.eq_iff_iff, g2, hr]; simp
      simp only [Result.andThen_ok, this, Sem.run_pure]
    · rw [run_neq_struct, g1']
      have : (!r') = r := by
        rw [Bool.eq_iff_iff, hr]
        simp only [Bool.not_eq_true', ← Bool.not_eq_true, g2]
        simp
      simp only [Result.andThen_ok, this, Sem.run_pure]
end
theorem lits_I {k : IntKind} {l m : List Int} : ((I k l).map litOf = (I k m).map litOf) ↔ l = m := by
  rw [List.map_map, List.map_map]
  constructor
  · intro h
    induction l generalizing m with
    | nil => cases m with
      | nil => rfl
      | cons b m => simp at h
    | cons a l ih => cases m with
      | nil => simp at h
      | cons b m =>
        simp only [List.map_cons, List.cons.injEq, Function.comp, litOf, Lit.int.injEq, true_and] at h
        rw [h.1, ih h.2]
  · intro h; rw [h]
section
variable {C : Ctx} {N : Nat} {E : List (Nat × AV)} {H : List (Nat × Blk)} {d : Nat} {ty : TypeId} {ps : String} {af : Array Edge} {g : Option (Nat × Bool)}
theorem ox_eqI {op : BinOp} {x y : Operand} {l m : List Int} {n : Nat} {k : IntKind} {r : Bool} {p q : List (Nat × AV)} {xt yt : TypeId} (hC : C.Ok) (hop : op = .eql ∨ op = .neq) (hx : OpV E x (.ag (I k l)) p) (hy : OpV E y (.ag (I k m)) q)
    (hsh : shOf C.P 8 xt = some (.nums n k)) (hkt : C.P.keyTypeAt 8 xt = true) (hagg : shp C.P xt = some (true, C.P.cellsOf xt)) (hg : C.P.eqGuardType C.P.depth xt = false) (hl : l.length = n) (hm : m.length = n) (wl : ∀ w ∈ l, (Lit.int k w).wf = true) (wm : ∀ w ∈ m, (Lit.int k w).wf = true)
    (hr : (if op = .eql then decide (l = m) else decide (l ≠ m)) = r) (hd : Nat.blt d C.T = true) (hd6 : Nat.blt d 1000000 = true) :
    OpC C ⟨N, E, H⟩ ⟨some d, .binOp op xt x y yt, ty, ps, af, g⟩ ⟨⟨some d, .binOp op xt x y yt, ty, ps, af, g⟩, false, p ++ q, [], [], [], .b r⟩ ⟨N, (d, .b r) :: E, H⟩ := by
  refine ox_eqS hC hop hx hy hsh hkt hagg hg trivial ⟨l, rfl, hl, wl⟩ ⟨m, rfl, hm, wm⟩ ?_ hd hd6
  subst hr
  rw [lits_I]
  rcases hop with rfl | rfl <;> simp
theorem wf_u8 {l : List Int} (h : B8 l) : ∀ w ∈ l, (Lit.int .u8 w).wf = true := fun w hw => by
  have := h w hw
  simp [Lit.wf, IntKind.min, IntKind.max, IntKind.signed, IntKind.bits]; omega
theorem b8_wf {l : List Int} (h : ∀ w ∈ l, (Lit.int .u8 w).wf = true) : B8 l := fun w hw => by
  have := h w hw
  simp [Lit.wf, IntKind.min, IntKind.max, IntKind.signed, IntKind.bits] at this; omega
inductive Dst (H : List (Nat × Blk)) : AV → Nat → Nat → Nat → Blk → Prop
  | row {k n sz : Nat} {t : TypeId} {cs : List AV} (h : lk H k = some (.row t sz n cs)) : Dst H (.row k) k 0 n (.row t sz n cs)
  | sl {k off len : Nat} {bk : Blk} (h : lk H k = some bk) : Dst H (.sl k off len) k off len bk
theorem over_nil {cs : List AV} {off : Nat} : over cs off [] = cs := by simp [over]
theorem put_nil {bk : Blk} {off : Nat} : bk.put off [] = bk := by cases bk <;> simp [Blk.put, over_nil]
theorem oc_copy {x y : Operand} {dv av : AV} {k off len m cnt : Nat} {bk : Blk} {xs us : List AV} {p q : List (Nat × AV)} {ro : List (Nat × Blk)} {H' : List (Nat × Blk)} {dT sT e : TypeId} (hC : C.Ok) (hx : OpV E x dv p) (hdv : Dst H dv k off len bk) (hy : OpV E y av q) (hs : Sl H av m xs ro)
    (hro : lk ro k = none) (hu : C.P.underlying dT = some (.slice e)) (hsz : (C.P.info? e).map (·.size) = some 1) (hcnt : Nat.min m len = cnt) (hus : xs.take cnt = us) (hul : us.length = cnt) (hone : us.all AV.one = true) (hfit : off + cnt ≤ bk.cs.length) (hH : SetK H k (bk.put off us) H')
    (hd : Nat.blt d C.T = true) (hd6 : Nat.blt d 1000000 = true) :
    OpC C ⟨N, E, H⟩ ⟨some d, .call ⟨.builtin .copy, #[x, y], #[dT, sT]⟩, ty, ps, af, g⟩ ⟨⟨some d, .call ⟨.builtin .copy, #[x, y], #[dT, sT]⟩, ty, ps, af, g⟩, false, p ++ q, ro, [(k, bk)], [(k, bk.put off us)], .i .i64 cnt⟩
      ⟨N, (d, .i .i64 cnt) :: E, H'⟩ := by
  obtain ⟨i, hi, hsi⟩ := Option.map_eq_some_iff.1 hsz
  have hH1 := hH.spec (bk := bk)
  have hkin : lk H k = some bk := by cases hdv with
    | row h => exact h
    | sl h => exact h
  have htri : Tri C.P C.F C.n ⟨some d, .call ⟨.builtin .copy, #[x, y], #[dT, sT]⟩, ty, ps, af, g⟩ (p ++ q) ro [(k, bk)] [(k, bk.put off us)] (.i .i64 cnt) := by
    refine Tri.of_value hC.fn (fun _ h => by cases h) (fun X ρ w a hp hkk hX hwr S s1 s2 s3 s4 => ?_) (fun S h1 h2 h3 h4 => ?_)
    · have hxv := hx.sim (fun t v hm => hp t v (List.mem_append_left _ hm))
      have hyv := hy.sim (fun t v hm => hp t v (List.mem_append_right _ hm))
      have hin : lk (ro ++ [(k, bk)]) k = some bk := by rw [lk_append, hro]; exact lk_one k bk
      have hok := hkk.ok k bk hin
      obtain ⟨a2, c2, cvs, hy2, hmc, hsv, had⟩ := hs.sim hyv (fun j b hj => hkk.ok j b (by rw [lk_append, hj]))
      have hsv' := simL_take cnt hsv
      rw [hus] at hsv'
      have hcl := simL_length hsv'
      have e1 : (#[x, y] : Array Operand).map a.eval = #[a.eval x, a.eval y] := by simp
      -- where nothing goes over
      have none0 : ∀ (A : Option Addr) (dc : Nat), a.eval x = .slice A len dc → cnt = 0 → ∃ cv w' ρ', ((execOp a.eval ⟨some d, .call ⟨.builtin .copy, #[x, y], #[dT, sT]⟩, ty, ps, af, g⟩).run C.P w = .ok (.value cv) w' ∨
          ((execOp a.eval ⟨some d, .call ⟨.builtin .copy, #[x, y], #[dT, sT]⟩, ty, ps, af, g⟩).run C.P w = .ok .skip w' ∧ cv = undef)) ∧ (∀ j, lk [(k, bk.put off us)] j = none ∨ lk [(k, bk)] j ≠ none → ρ' j = ρ j) ∧ Fr w (owned ρ (lk [(k, bk)])) w' ∧
          HOK X ρ' w' (lk (ro ++ [(k, bk.put off us)])) ∧ (∀ b, owned ρ' (lk [(k, bk.put off us)]) b → owned ρ (lk [(k, bk)]) b ∨ w.heap.size ≤ b) ∧
          (AV.i .i64 cnt).sim ρ' w' (fun b => X b ∨ owned ρ' (lk (ro ++ [(k, bk.put off us)])) b) cv := by
        intro A dc hA h0
        subst h0
        have : us = [] := List.eq_nil_of_length_eq_zero hul
        subst this
        rw [put_nil]
        refine ⟨.int .i64 0, w, ρ, .inl (run_builtin a w _ _ _ _ _ _ ?_), fun _ _ => rfl, Fr.refl _ _, hkk, fun b hb => .inl hb, by simp [AV.sim]⟩
        simp only [builtin, Sem.run_bind]
        rw [e1, hA, hy2, run_copy_none w dT sT ty e A a2 len dc m c2 hu (by rw [hi]; simp [hsi]) hcnt]
        rfl
      have some1 : ∀ (bl dc : Nat), a.eval x = .slice (some ⟨bl, off, none⟩) len dc → blkOf (ρ k) = some bl → 0 < cnt → ∃ cv w' ρ', ((execOp a.eval ⟨some d, .call ⟨.builtin .copy, #[x, y], #[dT, sT]⟩, ty, ps, af, g⟩).run C.P w = .ok (.value cv) w' ∨
          ((execOp a.eval ⟨some d, .call ⟨.builtin .copy, #[x, y], #[dT, sT]⟩, ty, ps, af, g⟩).run C.P w = .ok .skip w' ∧ cv = undef)) ∧ (∀ j, lk [(k, bk.put off us)] j = none ∨ lk [(k, bk)] j ≠ none → ρ' j = ρ j) ∧ Fr w (owned ρ (lk [(k, bk)])) w' ∧
          HOK X ρ' w' (lk (ro ++ [(k, bk.put off us)])) ∧ (∀ b, owned ρ' (lk [(k, bk.put off us)]) b → owned ρ (lk [(k, bk)]) b ∨ w.heap.size ≤ b) ∧
          (AV.i .i64 cnt).sim ρ' w' (fun b => X b ∨ owned ρ' (lk (ro ++ [(k, bk.put off us)])) b) cv := by
        intro bl dc hA hb hpos
        have hxsS : AV.inSL S us := by
          have := hs.bd (hy.bd fun t v hm => s1 t v (List.mem_append_right _ hm)) s2
          rw [← hus]
          rw [inSL_iff] at this ⊢
          exact fun x hx => this x (List.mem_of_mem_take hx)
        obtain ⟨w', g1, g2, g3, g4⟩ := stores_blk (P := C.P) (S := S) (off := off) hkk s2 (s3 k bk (List.mem_singleton.2 rfl)).2 hxsS hro hb hsv' hone (by omega)
        have hm : 0 < m := by
          rw [← hcnt] at hpos
          exact Nat.lt_of_lt_of_le hpos (Nat.min_le_left _ _)
        have hxl : 0 < xs.length := by
          have : us.length ≤ xs.length := by rw [← hus]; exact List.length_take_le' _ _
          omega
        obtain ⟨ad, rfl, hcell⟩ := had hm hxl
        have hl := run_loadCells_list (P := C.P) w ad (cvs.take cnt) (fun j v hj => by
          rw [List.getElem?_take] at hj
          split at hj
          · exact hcell j v hj
          · cases hj)
        rw [hcl, hul] at hl
        refine ⟨.int .i64 cnt, w', ρ, .inl (run_builtin a w _ _ _ _ _ _ ?_), fun _ _ => rfl, g2, g3, g4, by simp [AV.sim]⟩
        simp only [builtin, Sem.run_bind]
        rw [e1, hA, hy2]
        have hmin : min m len = cnt := hcnt
        simp [Builtin.copy_, run_underlying hu, Builtin.lenOf, Builtin.firstCells, sizeOf, typeInfo, hi, hsi, hmin, hl, g1, goInt]
      rcases Nat.eq_zero_or_pos cnt with h0 | hpos
      · cases hdv with
        | row h =>
          simp only [AV.sim] at hxv
          obtain ⟨hxv, _⟩ := hxv
          obtain ⟨_, h1 | ⟨bl, cap, cur, lo, hi', h1, _⟩⟩ := hok
          · exact none0 none 0 (by rw [hxv, h1.1, h1.2]) h0
          · exact none0 _ cap (by rw [hxv, h1]) h0
        | sl h =>
          simp only [AV.sim] at hxv
          obtain ⟨A, dc, h1, _⟩ := hxv
          exact none0 A dc h1 h0
      · have hlen : 0 < len := by
          rw [← hcnt] at hpos
          exact Nat.lt_of_lt_of_le hpos (Nat.min_le_right _ _)
        cases hdv with
        | row h =>
          simp only [AV.sim] at hxv
          obtain ⟨hxv, _⟩ := hxv
          obtain ⟨_, h1 | ⟨bl, cap, cur, lo, hi', h1, _⟩⟩ := hok
          · omega
          · exact some1 bl cap (by rw [hxv, h1]) (by rw [h1]; rfl) hpos
        | sl h =>
          simp only [AV.sim] at hxv
          obtain ⟨A, dc, h1, _, h2⟩ := hxv
          obtain ⟨bl, h3, rfl⟩ := h2 hlen
          exact some1 bl dc h1 h3 hpos
    · refine ⟨by simp [AV.inS], fun j c hm => ?_⟩
      simp at hm
      obtain ⟨hj, hc⟩ := hm
      subst hc hj
      have h5 := h3 _ bk (List.mem_singleton.2 rfl)
      have h6 : AV.inSL S us := by
        have := hs.bd (hy.bd (S := S) fun t v hm => h1 t v (List.mem_append_right _ hm)) h2
        rw [← hus]
        rw [inSL_iff] at this ⊢
        exact fun x hx => this x (List.mem_of_mem_take hx)
      refine ⟨h5.1, ?_⟩
      cases bk <;> exact over_bd h5.2 h6
  exact { op := rfl, skip := rfl, tri := htri, pre := fun t av hm => by
            rcases List.mem_append.1 hm with h | h
            · exact hx.pre t av h
            · exact hy.pre t av h
          ro := hs.ro, rd := fun j c hm => by simp at hm; rw [hm.1, hm.2]; exact hkin
          dj := fun j h1 => by
            rw [lk_cons] at h1
            split at h1
            · rename_i e; subst e; exact hro
            · simp [lk] at h1
          new := fun j h1 h2 => by
            simp only at h1 h2
            rw [lk_cons] at h1 h2
            split at h1
            · rename_i e; rw [if_pos e] at h2; cases h2
            · simp [lk] at h1
          N := Nat.le_refl _, dst := fun t ht => by cases ht; exact ⟨blt_lt hd, blt_lt hd6⟩
          E1 := fun t => setE_cons _ _ _ _, H1 := hH1 }
theorem ox_copy {x y : Operand} {dv av : AV} {k off len m cnt : Nat} {bk bk' : Blk} {xs us : List AV} {p q : List (Nat × AV)} {ro : List (Nat × Blk)} {H' : List (Nat × Blk)} {dT sT e : TypeId} (hC : C.Ok) (hx : OpV E x dv p) (hdv : Dst H dv k off len bk) (hy : OpV E y av q) (hs : Sl H av m xs ro)
    (hro : lk ro k = none) (hu : C.P.underlying dT = some (.slice e)) (hsz : (C.P.info? e).map (·.size) = some 1) (hcnt : Nat.min m len = cnt) (hus : xs.take cnt = us) (hul : us.length = cnt) (hone : us.all AV.one = true) (hfit : off + cnt ≤ bk.cs.length) (hput : bk.put off us = bk') (hH : SetK H k bk' H')
    (hd : Nat.blt d C.T = true) (hd6 : Nat.blt d 1000000 = true) :
    OpC C ⟨N, E, H⟩ ⟨some d, .call ⟨.builtin .copy, #[x, y], #[dT, sT]⟩, ty, ps, af, g⟩ ⟨⟨some d, .call ⟨.builtin .copy, #[x, y], #[dT, sT]⟩, ty, ps, af, g⟩, false, p ++ q, ro, [(k, bk)], [(k, bk')], .i .i64 cnt⟩
      ⟨N, (d, .i .i64 cnt) :: E, H'⟩ := by
  subst hput; exact oc_copy hC hx hdv hy hs hro hu hsz hcnt hus hul hone hfit hH hd hd6
theorem freeze_heap {w : World} {bl : Nat} {c : Array Value} {t : TypeId} {lo hi : Nat} (h : w.heap[bl]? = some (.cells c t (lo, hi))) :
    ∃ lo' hi', (w.freeze ⟨bl, c.size, none⟩ 1).heap[bl]? = some (.cells c t (lo', hi')) ∧ (lo = hi → lo' = c.size) ∧ (lo ≠ hi → lo' = min lo c.size) ∧ (∀ b, b ≠ bl → (w.freeze ⟨bl, c.size, none⟩ 1).heap[b]? = w.heap[b]?) := by
  refine ⟨if lo == hi then c.size else min lo c.size, if lo == hi then c.size + 1 else max hi (c.size + 1), ?_, ?_, ?_, ?_⟩
  · unfold World.freeze
    simp only [if_neg (show ¬ (1 = 0) by decide), Array.getElem?_modify, if_true, h]
    split <;> simp_all
  · intro e; simp [e]
  · intro e; simp [e]
  · intro b hb
    unfold World.freeze
    simp only [if_neg (show ¬ (1 = 0) by decide), Array.getElem?_modify]
    rw [if_neg (fun e => hb e.symm)]
theorem fr_freeze {w : World} {bl : Nat} {c : Array Value} {t : TypeId} {lo hi : Nat} (h : w.heap[bl]? = some (.cells c t (lo, hi))) {O : Nat → Prop} (hO : O bl) : Fr w O (w.freeze ⟨bl, c.size, none⟩ 1) := by
  obtain ⟨lo', hi', _, _, _, h4⟩ := freeze_heap h
  refine ⟨by unfold World.freeze; simp, by unfold World.freeze; simp, by unfold World.freeze; simp, by unfold World.freeze; simp, fun k _ hk => h4 k fun e => hk (e ▸ hO)⟩
theorem oc_same {x : Operand} {k n sz : Nat} {t : TypeId} {cs : List AV} {p : List (Nat × AV)} {st e : TypeId} {H' : List (Nat × Blk)} (hC : C.Ok) (hx : OpV E x (.row k) p) (hk : lk H k = some (.row t sz n cs)) (hn : 0 < n) (hu : C.P.underlying st = some (.slice e)) (he : C.P.underlying e = some (.int .u8))
    (hH : SetK H k (.row t sz n cs) H') (hd : Nat.blt d C.T = true) (hd6 : Nat.blt d 1000000 = true) :
    OpC C ⟨N, E, H⟩ ⟨some d, .convert st st x, ty, ps, af, g⟩ ⟨⟨some d, .convert st st x, ty, ps, af, g⟩, false, p, [], [(k, .row t sz n cs)], [(k, .row t sz n cs)], .row k⟩ ⟨N, (d, .row k) :: E, H'⟩ := by
  have htri : Tri C.P C.F C.n ⟨some d, .convert st st x, ty, ps, af, g⟩ p [] [(k, .row t sz n cs)] [(k, .row t sz n cs)] (.row k) := by
    refine Tri.of_value hC.fn (fun _ h => by cases h) (fun X ρ w a hp hkk hX hwr S s1 s2 s3 s4 => ?_) (fun S h1 h2 h3 h4 => ?_)
    · have hxv := hx.sim hp
      simp only [AV.sim] at hxv
      obtain ⟨hxv, _⟩ := hxv
      have hok := hkk.ok k _ (lk_one k (.row t sz n cs))
      obtain ⟨h0, h1 | ⟨bl, cap, cur, lo, hi, h1, h2, h3, h4, h5, h6, h7⟩⟩ := hok
      · omega
      · obtain ⟨lo', hi', f1, f2, f3, f4⟩ := freeze_heap h2
        have hown : owned ρ (lk [(k, .row t sz n cs)]) bl := ⟨k, _, lk_one k _, by rw [h1]; rfl⟩
        have hfr := fr_freeze h2 hown
        have hcell : ∀ (a : Addr), (w.freeze ⟨bl, cur.size, none⟩ 1).cell? a = w.cell? a := by
          intro a
          by_cases hb : a.block = bl
          · unfold World.cell?
            rw [hb, f1, h2]
          · exact World.cell?_of_block (f4 _ hb)
        have hmono : ∀ (a : Addr) (u : Value), ¬ (X a.block ∨ owned ρ (lk ([] ++ [(k, .row t sz n cs)])) a.block) → w.cell? a = some u → (w.freeze ⟨bl, cur.size, none⟩ 1).cell? a = some u ∧ ¬ (X a.block ∨ owned ρ (lk ([] ++ [(k, .row t sz n cs)])) a.block) := fun a u g1 g2 => ⟨by rw [hcell]; exact g2, g1⟩
        refine ⟨.slice (some ⟨bl, 0, none⟩) n cap, _, ρ, .inl ?_, fun _ _ => rfl, hfr, ⟨fun j bk hj => ?_, hkk.dist, hkk.apart⟩, fun b hb => .inl hb, ?_⟩
        · have hsh : w.shape? bl = some (t, cur.size) := by simp [World.shape?, h2]
          simp only [execOp, hxv, h1, convert, Sem.run_bind, run_underlying hu, run_underlying he, Result.andThen_ok]
          simp [markStringish, shape, Sem.run, hsh, run_freeze, Result.andThen]
        · rw [List.nil_append, lk_cons] at hj
          split at hj
          · rename_i ej; subst ej; cases hj
            refine ⟨h0, .inr ⟨bl, cap, cur, lo', hi', h1, f1, h3, h4, h5, ?_, simL_mono (S := S) hmono (fun _ _ => rfl) _ _ (s3 _ _ (List.mem_singleton.2 rfl)).2 h7⟩⟩
            by_cases hlh : lo = hi
            · left; rw [f2 hlh]; exact h5
            · left; rw [f3 hlh]
              rcases h6 with h6 | h6
              · omega
              · exact absurd h6.symm hlh
          · simp [lk] at hj
        · simp only [AV.sim]
          exact ⟨h1.symm, _, _, _, rfl⟩
    · refine ⟨by simp only [AV.inS]; exact (h3 k _ (List.mem_singleton.2 rfl)).1, h3⟩
  exact { op := rfl, skip := rfl, tri := htri, pre := hx.pre, ro := by simp, rd := fun j c hm => by simp at hm; rw [hm.1, hm.2]; exact hk
          dj := fun j h1 => rfl
          new := fun j h1 h2 => by
            simp only at h1 h2
            exact absurd h2 h1
          N := Nat.le_refl _, dst := fun t ht => by cases ht; exact ⟨blt_lt hd, blt_lt hd6⟩
          E1 := fun t => setE_cons _ _ _ _, H1 := hH.spec }
end
end Go.Sk
namespace Go.Sk
theorem length_sh (m : List Int) : (sha tbl m).length = 32 := length_sha _ _
theorem take_succ_get {l : List Int} {i : Nat} (h : i < l.length) : l.take (i + 1) = l.take i ++ [l.getD i 0] := by
  rw [List.take_add_one, List.getElem?_eq_getElem h, List.getD_eq_getElem?_getD, List.getElem?_eq_getElem h]; rfl
end Go.Sk
namespace Go.Sk
open Go.RowKit Go.ChangeShapes Go.WideShapes Go.WideElems
theorem read_of {P : Program} {ts : List TypeId} (h : (ts.all fun t => P.readableRec t && Nat.blt t P.types.size) = true) : ∀ t ∈ ts, P.readableRec t = true ∧ t < P.types.size := by
  intro t ht
  have := List.all_eq_true.1 h t ht
  simp only [Bool.and_eq_true] at this
  exact ⟨this.1, blt_lt this.2⟩
theorem chunks_int {k : IntKind} : ∀ {l : List (List AV)}, (∀ c ∈ l, c.length = 1 ∧ (Sh.int k).has c) → ∃ ws : List Int, l.flatten = I k ws ∧ ws.length = l.length ∧ ∀ w ∈ ws, (Lit.int k w).wf = true
  | [], _ => ⟨[], rfl, rfl, by simp⟩
  | c :: l, h => by
    obtain ⟨_, n, rfl, hw⟩ := h c List.mem_cons_self
    obtain ⟨ws, h1, h2, h3⟩ := chunks_int (l := l) fun c hc => h c (List.mem_cons_of_mem _ hc)
    refine ⟨n :: ws, by rw [List.flatten_cons, h1]; rfl, by simp [h2], fun w hw' => ?_⟩
    rcases List.mem_cons.1 hw' with rfl | hw'
    · exact hw
    · exact h3 w hw'
theorem arg_nums {k : IntKind} {v : AV} (h : (Sh.sl 1 (.int k)).arg v) : ∃ ws : List Int, v = .vs ws.length (I k ws) ∧ ws.length ≤ maxLen ∧ ∀ w ∈ ws, (Lit.int k w).wf = true := by
  obtain ⟨n, l, h1, h2, h3, h4⟩ := h
  obtain ⟨ws, g1, g2, g3⟩ := chunks_int h4
  cases h1
  rw [g1] at *
  exact ⟨ws, by rw [g2, h2], by omega, g3⟩
theorem arg_bytes {v : AV} (h : (Sh.sl 1 (.int .u8)).arg v) : ∃ ws : List Int, v = .vs ws.length (I .u8 ws) ∧ ws.length ≤ maxLen ∧ B8 ws := by
  obtain ⟨ws, h1, h2, h3⟩ := arg_nums h
  exact ⟨ws, h1, h2, b8_wf h3⟩
theorem arg_int {k : IntKind} {v : AV} (h : (Sh.int k).arg v) : ∃ n, v = .i k n ∧ (Lit.int k n).wf = true := by
  obtain ⟨n, h1, h2⟩ := h
  cases h1
  exact ⟨n, rfl, h2⟩
theorem arg_arr8 {n : Nat} {v : AV} (h : (Sh.nums n .u8).arg v) : ∃ ws : List Int, v = .ag (I .u8 ws) ∧ ws.length = n ∧ B8 ws := by
  obtain ⟨ws, h1, h2, h3⟩ := h
  exact ⟨ws, h1, h2, b8_wf h3⟩
theorem gok_nil {W : World} : GOK W [] := fun _ _ _ h => by simp at h
theorem gok_cons {W : World} {G : List (Nat × AV)} {g : Nat} {av : AV} (h : ∀ ρ : Nat → Value, av.sim ρ W noO (.pointer (some ⟨g, 0, none⟩))) (k : GOK W G) : GOK W ((1000000 + g, av) :: G) := by
  intro ρ t v hm
  rcases List.mem_cons.1 hm with hm | hm
  · cases hm
    rw [Nat.add_sub_cancel_left]
    exact h ρ
  · exact k ρ t v hm
theorem laidMetH_vars {P : Program} {laid : List (String × DataW Unit)} {W : World} (hp : (laid.all fun x => x.2.handleName?.isNone) = true) (h : laidMetH P laid W) : ∃ ps, DataW.LaidVars P W laid ps := by
  rw [MakeChecks.laidMetH_plain _ _ _ hp] at h
  obtain ⟨ps, h1, _⟩ := h
  exact ⟨ps, h1⟩
theorem stands_of {P : Program} {ts : Array TypeId} (h : (ts.toList.all fun t => !P.wantsStandIn t) = true) : ∀ (j : Nat) (t : TypeId), ts[j]? = some t → P.wantsStandIn t = false := by
  intro j t ht
  have hm : t ∈ ts.toList := by
    have := Array.getElem?_eq_some_iff.1 ht
    obtain ⟨h1, h2⟩ := this
    rw [← h2]; simp
  have := List.all_eq_true.1 h t hm
  simpa using this
end Go.Sk
namespace Go.Sk
open Go.RowKit
def delKs (ks : List Nat) : List (Nat × Blk) → List (Nat × Blk)
  | [] => []
  | (k, b) :: r => bif memB k ks then delKs ks r else (k, b) :: delKs ks r
theorem lk_delKs (ks : List Nat) (k : Nat) : ∀ (H : List (Nat × Blk)), lk (delKs ks H) k = if k ∈ ks then none else lk H k
  | [] => by simp [delKs, lk]
  | (j, b) :: r => by
    unfold delKs
    cases hm : memB j ks with
    | true =>
      rw [cond_true, lk_delKs ks k r, lk_cons]
      rw [memB_iff] at hm
      by_cases hk : k ∈ ks
      · rw [if_pos hk, if_pos hk]
      · rw [if_neg hk, if_neg hk, if_neg (fun e => hk (by rw [← e]; exact hm))]
    | false =>
      rw [cond_false, lk_cons, lk_cons, lk_delKs ks k r]
      have hm' : j ∉ ks := fun h => by rw [memB_iff.2 h] at hm; cases hm
      by_cases hj : j = k
      · subst hj; rw [if_pos rfl, if_pos rfl, if_neg hm']
      · rw [if_neg hj, if_neg hj]
theorem lk_none_iff {l : List (Nat × Blk)} {k : Nat} : lk l k = none ↔ k ∉ l.map Prod.fst := by
  constructor
  · intro h hm
    obtain ⟨p, hp, rfl⟩ := List.mem_map.1 hm
    exact lk_none_of (b := p.2) hp h
  · intro h
    cases hk : lk l k with
    | none => rfl
    | some b => exact absurd (List.mem_map.2 ⟨(k, b), lk_mem hk, rfl⟩) h
def injB (l : List Nat) (τ : Nat → Nat) : Bool := l.all fun a => l.all fun b => !(Nat.beq (τ a) (τ b)) || Nat.beq a b
def disjB (l m : List Nat) : Bool := l.all fun a => !memB a m
def newB (wr rd : List Nat) (N N' : Nat) : Bool := wr.all fun k => memB k rd || (Nat.ble N k && Nat.blt k N')
inductive CalleeV (E : List (Nat × AV)) : Operand → FuncId → List AV → List (Nat × AV) → Prop
  | func {f : Nat} : CalleeV E (.func f) f [] []
  | val {t f : Nat} {caps : List AV} (h : lk E t = some (.f f caps)) (ht : Nat.blt t 1000000 = true := by rfl) (hf : Nat.blt f 1000000000 = true := by rfl) : CalleeV E (.tmp t) f caps [(t, .f f caps)]
section
variable {C : Ctx} {N : Nat} {E : List (Nat × AV)} {H : List (Nat × Blk)} {d : Nat} {ty : TypeId} {ps : String} {af : Array Edge} {g : Option (Nat × Bool)}
theorem oc_callG {dst : Option Tmp} {c : Operand} {f : FuncId} {xs : Array Operand} {ts : Array TypeId} {avs caps us : List AV} {p pc G : List (Nat × AV)} {rdc wrc rd wr ro : List (Nat × Blk)} {v v' : AV} {τ : Nat → Nat} {N' : Nat} {H' : List (Nat × Blk)}
    (hC : C.Ok) (hc : CalleeV E c f caps pc) (hx : OpVL E xs.toList avs p) (hh : Hand H τ (avs ++ caps) us ro) (hf : FnC C.P f G us rdc wrc v) (hg : Glob E G) (hrd : rdc.map (renP τ) = rd) (hwr : wrc.map (renP τ) = wr) (hv : v.ren τ = v')
    (hrdH : ∀ k b, (k, b) ∈ rd → lk H k = some b) (hinj : injB (rdc.map Prod.fst ++ wrc.map Prod.fst) τ = true) (hdj : disjB (rd.map Prod.fst) (ro.map Prod.fst) = true) (hnew : newB (wr.map Prod.fst) (rd.map Prod.fst) N N' = true) (hN : Nat.ble N N' = true)
    (hn : ro = [] ∨ (v.novs ∧ ∀ q ∈ wrc, AV.novsL q.2.cs)) (hH : wr ++ delKs (rd.map Prod.fst) H = H') (hdst : ∀ t, dst = some t → t < C.T ∧ t < 1000000) {E' : List (Nat × AV)} (hE : ∀ t, lk E' t = setE (lk E) dst v' t) :
    OpC C ⟨N, E, H⟩ ⟨dst, .call ⟨.value c, xs, ts⟩, ty, ps, af, g⟩ ⟨⟨dst, .call ⟨.value c, xs, ts⟩, ty, ps, af, g⟩, false, pc ++ (p ++ G), ro, rd, wr, v'⟩ ⟨N', E', H'⟩ := by
  have hinj' : ∀ a ∈ rdc ++ wrc, ∀ b ∈ rdc ++ wrc, τ a.1 = τ b.1 → a.1 = b.1 := by
    intro a ha b hb e
    have h1 : a.1 ∈ rdc.map Prod.fst ++ wrc.map Prod.fst := by rw [← List.map_append]; exact List.mem_map.2 ⟨a, ha, rfl⟩
    have h2 : b.1 ∈ rdc.map Prod.fst ++ wrc.map Prod.fst := by rw [← List.map_append]; exact List.mem_map.2 ⟨b, hb, rfl⟩
    have h3 := List.all_eq_true.1 (List.all_eq_true.1 hinj _ h1) _ h2
    simp only [Bool.or_eq_true, Bool.not_eq_true', Nat.beq_eq] at h3
    rcases h3 with h3 | h3
    · rw [e] at h3; simp at h3
    · exact h3
  have hdj' : ∀ k, lk rd k ≠ none → lk ro k = none := by
    intro k hk
    rw [lk_none_iff]
    intro hm
    obtain ⟨b, hb⟩ := Option.ne_none_iff_exists'.1 hk
    have h1 := List.all_eq_true.1 hdj k (List.mem_map.2 ⟨(k, b), lk_mem hb, rfl⟩)
    rw [Bool.not_eq_true', ← Bool.not_eq_true, memB_iff] at h1
    exact h1 hm
  have htri : Tri C.P C.F C.n ⟨dst, .call ⟨.value c, xs, ts⟩, ty, ps, af, g⟩ (pc ++ (p ++ G)) ro rd wr v' := by
    refine tri_call (τ := τ) (avs := avs ++ caps) hC.fn hC.depth hf (fun _ h => by cases h) (fun ρ w O a hp => ?_) (fun S hp => ?_) (fun t av hm => ⟨List.mem_append_right _ (List.mem_append_right _ hm), (hg t av hm).2⟩) hh hinj' hrd hwr hv hdj' hn
    · have h1 := hx.sim fun t v hm => hp t v (List.mem_append_right _ (List.mem_append_left _ hm))
      cases hc with
      | func =>
        refine ⟨_, ?_, by rw [run_call hf.ent a w, eval_list]⟩
        rw [List.append_nil]; exact h1
      | @val t f caps h ht hf1 =>
        obtain ⟨cv, h2, h3⟩ := hp t _ (List.mem_append_left _ (List.mem_singleton.2 rfl))
        simp only [AV.sim, tgt_func hf1] at h3
        obtain ⟨cvs, rfl, h4⟩ := h3
        have h5 : a.eval (.tmp t) = .func (.func f) #[] cvs.toArray := slot_eval h2 (blt_lt ht)
        refine ⟨_, simL_append h1 h4, ?_⟩
        rw [run_callV hf.ent a w _ h5, eval_list]
        simp
    · rw [inSL_iff]
      intro x hx'
      rcases List.mem_append.1 hx' with h | h
      · exact inSL_iff.1 (hx.bd fun t v hm => hp t v (List.mem_append_right _ (List.mem_append_left _ hm))) x h
      · cases hc with
        | func => simp at h
        | @val t f caps h' ht hf1 =>
          have := hp t _ (List.mem_append_left _ (List.mem_singleton.2 rfl))
          simp only [AV.inS] at this
          exact inSL_iff.1 this x h
  exact { op := rfl, skip := rfl, tri := htri, pre := fun t av hm => by
            rcases List.mem_append.1 hm with h | h
            · cases hc with
              | func => simp at h
              | val h' ht hf1 => simp at h; rw [h.1, h.2]; exact h'
            · rcases List.mem_append.1 h with h | h
              · exact hx.pre t av h
              · exact (hg t av h).1
          ro := hh.rom, rd := hrdH, dj := hdj'
          new := fun k h1 h2 => by
            obtain ⟨b, hb⟩ := Option.ne_none_iff_exists'.1 h1
            have h3 := List.all_eq_true.1 hnew k (List.mem_map.2 ⟨(k, b), lk_mem hb, rfl⟩)
            simp only [Bool.or_eq_true, Bool.and_eq_true, memB_iff] at h3
            rcases h3 with h3 | h3
            · exact absurd h3 (lk_none_iff.1 h2)
            · exact ⟨Nat.le_of_ble_eq_true h3.1, blt_lt h3.2⟩
          N := Nat.le_of_ble_eq_true hN, dst := hdst, E1 := hE
          H1 := fun k => by
            simp only
            rw [← hH, lk_append]
            unfold upd
            cases lk wr k with
            | some b => rfl
            | none =>
              simp only
              rw [lk_delKs]
              by_cases hk : k ∈ rd.map Prod.fst
              · rw [if_pos hk]
                have : lk rd k ≠ none := fun e => lk_none_iff.1 e hk
                cases hr : lk rd k with
                | none => exact absurd hr this
                | some b => rfl
              · rw [if_neg hk, lk_none_iff.2 hk]; rfl }
theorem dst_ok {T d : Nat} (hd : Nat.blt d T = true) (hd6 : Nat.blt d 1000000 = true) : ∀ t, some d = some t → t < T ∧ t < 1000000 := fun t ht => by cases ht; exact ⟨blt_lt hd, blt_lt hd6⟩
theorem rd_nil {H : List (Nat × Blk)} : ∀ k b, (k, b) ∈ ([] : List (Nat × Blk)) → lk H k = some b := fun _ _ h => by simp at h
theorem rd_cons {H rd : List (Nat × Blk)} {k : Nat} {b : Blk} (h : lk H k = some b) (t : ∀ k b, (k, b) ∈ rd → lk H k = some b) : ∀ j c, (j, c) ∈ (k, b) :: rd → lk H j = some c := by
  intro j c hm
  rcases List.mem_cons.1 hm with hm | hm
  · cases hm; exact h
  · exact t j c hm
theorem mr_nil {τ : Nat → Nat} : ([] : List (Nat × Blk)).map (renP τ) = [] := rfl
theorem mr_cons {τ : Nat → Nat} {k k' : Nat} {b b' : Blk} {r r' : List (Nat × Blk)} (hb : b.ren τ = b') (hk : τ k = k') (ht : r.map (renP τ) = r') : ((k, b) :: r).map (renP τ) = (k', b') :: r' := by
  rw [List.map_cons, ht]; simp only [renP, hb, hk]
theorem nv_nil : ∀ q ∈ ([] : List (Nat × Blk)), AV.novsL q.2.cs := fun _ h => by simp at h
theorem nv_cons {k : Nat} {b : Blk} {r : List (Nat × Blk)} (h : AV.novsL b.cs) (t : ∀ q ∈ r, AV.novsL q.2.cs) : ∀ q ∈ (k, b) :: r, AV.novsL q.2.cs := by
  intro q hq
  rcases List.mem_cons.1 hq with rfl | hq
  · exact h
  · exact t q hq
theorem Hand.v1 {H : List (Nat × Blk)} {τ : Nat → Nat} {x u : AV} {xs us : List AV} {r ro : List (Nat × Blk)} (h : View1 H x u r) (t : Hand H τ xs us ro) : Hand H τ (x :: xs) (u :: us) ((r ++ []) ++ ro) := .one (View.cons1 h (.same (by simp [AV.inSL]))) t
theorem Hand.end {H : List (Nat × Blk)} {τ : Nat → Nat} : Hand H τ [] [] [] := .view (.same (by simp [AV.inSL]))
theorem cut_recap {H : List (Nat × Blk)} {v u : AV} {sz n l h : Nat} {ro : List (Nat × Blk)} (hc : CutS H v sz n l h u ro) {ρ : Nat → Value} {w : World} {O : Nat → Prop} {a a' : Option Addr} {cap cap' : Nat} (hs : u.sim ρ w O (.slice a (h - l) cap)) (hcap : h - l ≤ cap')
    (ha : 0 < h - l → a' = a) (hnil : v = .nils → a' = none ∧ cap' = 0) : u.sim ρ w O (.slice a' (h - l) cap') := by
  cases hc with
  | row hk hr =>
    simp only [AV.sim] at hs ⊢
    obtain ⟨a1, c1, h1, h2, h3⟩ := hs
    cases h1
    exact ⟨_, _, rfl, hcap, fun hp => by obtain ⟨bl, g1, g2⟩ := h3 hp; exact ⟨bl, g1, by rw [ha hp]; exact g2⟩⟩
  | sl hr =>
    simp only [AV.sim] at hs ⊢
    obtain ⟨a1, c1, h1, h2, h3⟩ := hs
    cases h1
    exact ⟨_, _, rfl, hcap, fun hp => by obtain ⟨bl, g1, g2⟩ := h3 hp; exact ⟨bl, g1, by rw [ha hp]; exact g2⟩⟩
  | vs hx =>
    simp only [AV.sim] at hs ⊢
    obtain ⟨a1, c1, cvs, h1, h2, h3, h4⟩ := hs
    cases h1
    refine ⟨_, _, cvs, rfl, hcap, fun hp => ?_, h4⟩
    have hpos : 0 < h - l := by
      rcases Nat.eq_zero_or_pos (h - l) with e | e
      · have := simL_length h4
        rw [e] at this
        simp at this
        rw [this] at hp; simp at hp
      · exact e
    rw [ha hpos]; exact h3 hp
  | nils =>
    obtain ⟨h1, h2⟩ := hnil rfl
    subst h1 h2
    simp [AV.sim]
theorem run_bounds3 {P : Program} (w : World) (isS : Bool) (len cap : Nat) (lo : Option Value) (k1 k2 : IntKind) (l h m : Nat) (hlo : (lo = none ∧ l = 0) ∨ ∃ k, lo = some (.int k l)) (h1 : l ≤ h) (h2 : h ≤ m) (h3 : m ≤ cap) :
    (Instr.sliceBounds isS len cap lo (some (.int k1 h)) (some (.int k2 m))).run P w = .ok (l, h, m) w := by
  unfold Instr.sliceBounds
  rcases hlo with ⟨rfl, rfl⟩ | ⟨k, rfl⟩ <;> simp [run_bound, h1, h2, h3]
theorem oc_cutS3 {x : Operand} {lo : Option Operand} {yh ym : Operand} {k1 k2 : IntKind} {av u u' : AV} {p q r s : List (Nat × AV)} {ro : List (Nat × Blk)} {t : TypeId} {n sz l h m : Nat} (hC : C.Ok) (hx : OpV E x av p) (hlo : OptV E 0 lo l q) (hhi : OpV E yh (.i k1 h) r) (hm : OpV E ym (.i k2 m) s)
    (hT : idx C.P t = some (none, sz)) (hu : CutS H av sz n l h u ro) (h1 : l ≤ h) (h2 : h ≤ m) (h3 : m ≤ n) (hu' : u = u') (hd : Nat.blt d C.T = true) (hd6 : Nat.blt d 1000000 = true) :
    OpC C ⟨N, E, H⟩ ⟨some d, .slice t x lo (some yh) (some ym), ty, ps, af, g⟩ ⟨⟨some d, .slice t x lo (some yh) (some ym), ty, ps, af, g⟩, false, p ++ (q ++ (r ++ s)), ro, [], [], u'⟩ ⟨N, (d, u') :: E, H⟩ := by
  subst hu'
  refine oc_pure hC rfl hd hd6 (fun _ h => by cases h) (fun t av hm' => ?_) hu.ro (fun ρ w O a hpr hro => ?_) (fun S h1 h2 => hu.bd (hx.bd fun t v hm => h1 t v (List.mem_append_left _ hm)))
  · rcases List.mem_append.1 hm' with h | h
    · exact hx.pre t av h
    · rcases List.mem_append.1 h with h | h
      · exact hlo.pre t av h
      · rcases List.mem_append.1 h with h | h
        · exact hhi.pre t av h
        · exact hm.pre t av h
  · have hxs := hx.sim (fun t v hm => hpr t v (List.mem_append_left _ hm))
    obtain ⟨ad, cap, g3, g5, g4⟩ := hu.sim h1 (Nat.le_trans h2 h3) hxs hro
    have hl := hlo.sim (fun t v hm => hpr t v (List.mem_append_right _ (List.mem_append_left _ hm)))
    have hh := hhi.sim (fun t v hm' => hpr t v (List.mem_append_right _ (List.mem_append_right _ (List.mem_append_left _ hm'))))
    have hmm := hm.sim (fun t v hm' => hpr t v (List.mem_append_right _ (List.mem_append_right _ (List.mem_append_right _ hm'))))
    simp only [AV.sim] at hh hmm
    have hnil : av = .nils → (if m = l then ad else ad.map (·.add (l * sz))) = none ∧ m - l = 0 := by
      intro e
      subst e
      simp only [AV.sim] at hxs
      rw [g3] at hxs
      cases hxs
      refine ⟨by simp, by omega⟩
    have fin := cut_recap hu (a' := if m = l then ad else ad.map (·.add (l * sz))) (cap' := m - l) g4 (by omega) (fun hp => by rw [if_neg (by omega), if_neg (by omega)]) hnil
    refine ⟨_, ?_, fin⟩
    rcases run_idx hT with ⟨m', e, i', hm', hU, hi, hsz⟩ | ⟨e, i', hm', hU, hi, hsz⟩
    · cases hm'
    · simp only [execOp, g3, hh, hmm, Instr.sliceAt, Instr.slice, Sem.run_bind, Sem.run_pure, Result.andThen_ok, run_underlying hU, Option.map_some,
        run_bounds3 (P := C.P) w true n cap _ k1 k2 l h m hl h1 h2 (by omega), run_size hi hsz]
theorem oc_eqb {op : BinOp} {x y : Operand} {a b r : Bool} {p q : List (Nat × AV)} {xt yt : TypeId} (hC : C.Ok) (hop : op = .eql ∨ op = .neq) (hT : C.P.underlying xt = some .bool) (hx : OpV E x (.b a) p) (hy : OpV E y (.b b) q) (hr : (if op = .eql then a == b else !(a == b)) = r)
    (hd : Nat.blt d C.T = true) (hd6 : Nat.blt d 1000000 = true) :
    OpC C ⟨N, E, H⟩ ⟨some d, .binOp op xt x y yt, ty, ps, af, g⟩ ⟨⟨some d, .binOp op xt x y yt, ty, ps, af, g⟩, false, p ++ q, [], [], [], .b r⟩ ⟨N, (d, .b r) :: E, H⟩ := by
  subst hr
  refine oc_pure hC rfl hd hd6 (fun _ h => by cases h) (fun t av hm => ?_) (by simp) (fun ρ w O A hp _ => ⟨.bool _, ?_, by simp only [AV.sim]; rfl⟩) (fun S _ _ => inS_b)
  · rcases List.mem_append.1 hm with h | h
    · exact hx.pre t av h
    · exact hy.pre t av h
  · have h1 := hx.sim (fun t v hm => hp t v (List.mem_append_left _ hm))
    have h2 := hy.sim (fun t v hm => hp t v (List.mem_append_right _ hm))
    simp only [AV.sim] at h1 h2
    have hg : (eqGuard op xt x y (.bool a) (.bool b)).run C.P w = .ok () w := by
      unfold eqGuard
      rcases hop with rfl | rfl <;> rfl
    simp only [execOp, h1, h2, Sem.run_bind, hg, Result.andThen_ok]
    rcases hop with rfl | rfl <;> simp [binOp, run_equal_bool (P := C.P) w xt a b hT]
end
theorem weak_slv {C : Ctx} {N : Nat} {E : List (Nat × AV)} {H H' : List (Nat × Blk)} {t k off len : Nat} {bk : Blk} {us : List AV} (hE : lk E t = some (.sl k off len)) (hH : lk H k = some bk) (hd : DelK H k H') (hus : (bk.cs.drop off).take us.length = us) (hul : 0 < us.length → 0 < len) (hk : AV.inSL (fun _ => False) us) :
    Weak C ⟨N, E, H⟩ ⟨N, (t, .vs len us) :: E, H'⟩ := by
  rintro a w ⟨ρ, ⟨hEn, hHk, hX, hbE, hbH⟩, h1, h2, h3, h4, h5⟩
  have hlk : ∀ j b, lk H' j = some b → lk H j = some b ∧ j ≠ k := by
    intro j b hj
    rw [hd.spec j] at hj
    split at hj
    · cases hj
    · rename_i hne; exact ⟨hj, fun e => hne e.symm⟩
  have hown : ∀ b, owned ρ (lk H') b → owned ρ (lk H) b := fun b ⟨j, c, hj, hb⟩ => ⟨j, c, (hlk j c hj).1, hb⟩
  have hmw : ∀ (x : Addr) (u : Value), ¬ (C.X x.block ∨ owned ρ (lk H) x.block) → w.cell? x = some u → w.cell? x = some u ∧ ¬ (C.X x.block ∨ owned ρ (lk H') x.block) := fun x u g1 g2 => ⟨g2, fun g3 => g1 (g3.imp id (hown _))⟩
  refine ⟨ρ, ⟨?_, ⟨?_, ?_, fun b hb => hHk.apart b (hown b hb)⟩, hX, ?_, fun j b hj => hbH j b (hlk j b hj).1⟩, h1, h2.cons (fun h => by cases h), h3, fun b hb => h4 b (hown b hb), h5⟩
  · intro u av hu
    simp only at hu
    rw [lk_cons] at hu
    split at hu
    · rename_i he; subst he
      simp at hu; subst hu
      obtain ⟨cv, h6, h7⟩ := hEn _ _ hE
      simp only [AV.sim] at h7
      obtain ⟨ad, cap, rfl, h8, h9⟩ := h7
      refine ⟨_, h6, ?_⟩
      simp only [AV.sim]
      rcases Nat.eq_zero_or_pos us.length with h0 | h0
      · have : us = [] := List.eq_nil_of_length_eq_zero h0
        subst this
        exact ⟨ad, cap, [], rfl, h8, fun h => absurd h (by simp), by simp [AV.simL]⟩
      · obtain ⟨bl, g1, rfl⟩ := h9 (hul h0)
        obtain ⟨cvs, g2, g3⟩ := blk_cells (hHk.ok k _ hH) g1
        have g4 := simL_take us.length (simL_drop off g2)
        rw [hus] at g4
        refine ⟨_, cap, _, rfl, h8, fun _ => ⟨_, rfl, ?_, fun j cv hj => ?_⟩, simL_mono (S := fun _ => False) hmw (fun _ h => h.elim) _ _ hk g4⟩
        · rintro (hx | ⟨j, c, hj, hb⟩)
          · exact hHk.apart bl ⟨k, _, hH, g1⟩ hx
          · obtain ⟨g5, g6⟩ := hlk j c hj
            exact g6 (hHk.dist j k bl (by rw [g5]; simp) (by rw [hH]; simp) hb g1)
        · rw [Go.Sk.add_none]
          rw [List.getElem?_take] at hj
          split at hj
          · rw [List.getElem?_drop] at hj; exact g3 _ _ hj
          · cases hj
    · obtain ⟨cv, h6, h7⟩ := hEn u av hu
      exact ⟨cv, h6, sim_mono (S := fun _ => True) hmw (fun _ _ => rfl) av cv (inS_true av) h7⟩
  · intro j b hj
    obtain ⟨g1, _⟩ := hlk j b hj
    exact Blk.ok_conv b rfl (fun vs hvs => simL_mono (S := fun _ => True) hmw (fun _ _ => rfl) _ _ (inSL_true _) hvs) (hHk.ok j b g1)
  · intro j j' b g1 g2 g3 g4
    obtain ⟨c, hc⟩ := Option.ne_none_iff_exists'.1 g1
    obtain ⟨c', hc'⟩ := Option.ne_none_iff_exists'.1 g2
    exact hHk.dist j j' b (by rw [(hlk j c hc).1]; simp) (by rw [(hlk j' c' hc').1]; simp) g3 g4
  · intro u av hu
    simp only at hu ⊢
    rw [lk_cons] at hu
    split at hu
    · simp at hu; subst hu; simp only [AV.inS]; exact inSL_mono (fun _ h => h.elim) _ hk
    · exact hbE u av hu
theorem finK {P : Program} {N0 : Nat} {rs : List ResultVar} {wr : List (Nat × Blk)} {v : AV} {s : AS} {vs : List AV} (τ : Nat → Nat) (h : ResL P s rs vs) (hv : v.ren τ = tuAV vs) (hw : ∀ k b, (k, b) ∈ wr → lk s.H (τ k) = some (b.ren τ)) (hi : nodupB (wr.map fun p => τ p.1) = true) (hf : fixB τ N0 = true) : Fin P N0 rs wr v s :=
  ⟨τ, vs, h, hv, fun k b hb => hw k b (lk_mem hb), nodupB_inj hi, fixB_spec hf⟩
theorem wr_nil {τ : Nat → Nat} {H : Heap} : ∀ k b, (k, b) ∈ ([] : List (Nat × Blk)) → H (τ k) = some (Blk.ren τ b) := fun _ _ h => by simp at h
theorem wr_cons {τ : Nat → Nat} {H : Heap} {wr : List (Nat × Blk)} {k : Nat} {b b' : Blk} (h : H (τ k) = some b') (hb : b.ren τ = b') (t : ∀ k b, (k, b) ∈ wr → H (τ k) = some (Blk.ren τ b)) : ∀ j c, (j, c) ∈ (k, b) :: wr → H (τ j) = some (Blk.ren τ c) := by
  intro j c hm
  rcases List.mem_cons.1 hm with hm | hm
  · cases hm; rw [hb]; exact h
  · exact t j c hm
theorem one_parts {ps : List (Nat × List Int)} {m : Nat} : ((ps.map fun p => AV.vs p.1 (I .u8 p.2)).take m).all AV.one = true := by
  rw [List.all_eq_true]
  intro x hx
  have := List.mem_of_mem_take hx
  simp only [List.mem_map] at this
  obtain ⟨q, _, rfl⟩ := this; rfl
theorem weak_nilv {C : Ctx} {N : Nat} {E : List (Nat × AV)} {H : List (Nat × Blk)} {t : Nat} (hE : lk E t = some .nils) : Weak C ⟨N, E, H⟩ ⟨N, (t, .vs 0 []) :: E, H⟩ := by
  rintro a w ⟨ρ, ⟨hEn, hHk, hX, hbE, hbH⟩, h1, h2, h3, h4, h5⟩
  refine ⟨ρ, ⟨?_, hHk, hX, ?_, hbH⟩, h1, h2.cons (fun h => by cases h), h3, h4, h5⟩
  · intro u av hu
    simp only at hu
    rw [lk_cons] at hu
    split at hu
    · rename_i he; subst he
      simp at hu; subst hu
      obtain ⟨cv, h6, h7⟩ := hEn _ _ hE
      simp only [AV.sim] at h7
      exact ⟨cv, h6, by simp only [AV.sim]; exact ⟨none, 0, [], h7, Nat.le_refl _, fun h => absurd h (by simp), by simp [AV.simL]⟩⟩
    · exact hEn u av hu
  · intro u av hu
    simp only at hu ⊢
    rw [lk_cons] at hu
    split at hu
    · simp at hu; subst hu; simp [AV.inS, AV.inSL]
    · exact hbE u av hu
end Go.Sk
namespace Go.Sk
abbrev xb (a b : Int) : Int := binI .xor .u8 a b
theorem u8_range (n : Int) : 0 ≤ IntKind.u8.wrap n ∧ IntKind.u8.wrap n < 256 := by rw [u8_wrap]; omega
theorem xb_range (a b : Int) : 0 ≤ xb a b ∧ xb a b < 256 := u8_range _
def key64 (key : List Int) : List Int := if 64 < key.length then sha tbl key else key
def zpad (key : List Int) : List Int := key64 key ++ List.replicate (64 - (key64 key).length) 0
def padK (key : List Int) (by_ : Int) : List Int := (zpad key).map fun c => xb c by_
def codeM (key m : List Int) : List Int := sha tbl (padK key 92 ++ sha tbl (padK key 54 ++ m))
theorem length_key64 (key : List Int) : (key64 key).length ≤ 64 := by
  unfold key64; split
  · rw [length_sha]; omega
  · omega
theorem length_zpad (key : List Int) : (zpad key).length = 64 := by
  have := length_key64 key
  simp [zpad]; omega
theorem length_padK (key : List Int) (b : Int) : (padK key b).length = 64 := by simp [padK, length_zpad]
theorem B8_padK (key : List Int) (b : Int) : B8 (padK key b) := by
  intro x hx
  unfold padK at hx
  obtain ⟨c, _, rfl⟩ := List.mem_map.1 hx
  exact xb_range _ _
theorem B8_zeros (n : Nat) : B8 (List.replicate n 0) := by
  intro x hx; rw [List.mem_replicate] at hx; omega
theorem B8_key64 {key : List Int} (h : B8 key) : B8 (key64 key) := by unfold key64; split; exact B8_sha _ _; exact h
theorem B8_zpad {key : List Int} (h : B8 key) : B8 (zpad key) := B8_append (B8_key64 h) (B8_zeros _)
theorem length_code (key m : List Int) : (codeM key m).length = 32 := by unfold codeM; exact length_sha _ _
theorem B8_code (key m : List Int) : B8 (codeM key m) := by unfold codeM; exact B8_sha _ _
def padP8 (k : List Int) (b : Int) (i : Nat) : List Int := (k.take i).map (fun c => xb c b) ++ k.drop i
theorem padP8_zero {k : List Int} {b : Int} : padP8 k b 0 = k := by simp [padP8]
theorem length_padP8 {k : List Int} {b : Int} {i : Nat} (h : k.length = 64) (hi : i ≤ 64) : (padP8 k b i).length = 64 := by simp [padP8]; omega
theorem padP8_get {k : List Int} {b : Int} {i : Nat} (h : k.length = 64) (hi : i < 64) : (padP8 k b i).getD i 0 = k.getD i 0 := by
  have h1 : ((k.take i).map fun c => xb c b).length = i := by simp; omega
  unfold padP8
  rw [List.getD_eq_getElem?_getD, List.getElem?_append_right (by omega), h1, Nat.sub_self, List.getElem?_drop, Nat.add_zero, List.getD_eq_getElem?_getD]
theorem padP8_succ {k : List Int} {b : Int} {i : Nat} (h : k.length = 64) (hi : i < 64) : (padP8 k b i).set i (xb (k.getD i 0) b) = padP8 k b (i + 1) := by
  have h1 : ((k.take i).map fun c => xb c b).length = i := by simp; omega
  have h2 : k.drop i = k.getD i 0 :: k.drop (i + 1) := by
    rw [List.drop_eq_getElem_cons (by omega), List.getD_eq_getElem?_getD, List.getElem?_eq_getElem (by omega)]; rfl
  unfold padP8
  rw [h2, set_mid h1, take_succ_get (by omega), List.map_append, List.append_assoc]
  rfl
theorem padP8_end {key : List Int} {b : Int} : padP8 (zpad key) b 64 = padK key b := by
  have := length_zpad key
  unfold padP8 padK
  rw [List.take_of_length_le (by omega), List.drop_of_length_le (by omega), List.append_nil]
theorem put_copy {t : TypeId} {k : IntKind} {l m : List Int} {n : Nat} (h : m.length ≤ l.length) : (Blk.row t 1 n (I k l)).put 0 (I k m) = .row t 1 n (I k (m ++ l.drop m.length)) := by
  simp [Blk.put, over, List.map_drop]
theorem zrep {key : List Int} : key64 key ++ (List.replicate 64 (0 : Int)).drop (key64 key).length = zpad key := by
  unfold zpad; rw [List.drop_replicate]
def keyT (p purpose : List Int) : Nat → List Int
  | 0 => []
  | i + 1 => codeM p (keyT p purpose i ++ purpose ++ [((i + 1 : Nat) : Int)])
def keyS (p purpose : List Int) : Nat → List Int
  | 0 => []
  | i + 1 => keyS p purpose i ++ keyT p purpose (i + 1)
theorem length_keyT (p q : List Int) (i : Nat) : (keyT p q (i + 1)).length = 32 := length_code _ _
theorem length_keyT_le (p q : List Int) : ∀ i, (keyT p q i).length ≤ 32
  | 0 => by simp [keyT]
  | i + 1 => by rw [length_keyT]; omega
theorem B8_keyT (p q : List Int) : ∀ i, B8 (keyT p q i)
  | 0 => by intro x hx; simp [keyT] at hx
  | i + 1 => B8_code _ _
theorem length_keyS (p q : List Int) : ∀ i, (keyS p q i).length = 32 * i
  | 0 => rfl
  | i + 1 => by rw [keyS, List.length_append, length_keyS p q i, length_keyT]; omega
theorem B8_keyS (p q : List Int) : ∀ i, B8 (keyS p q i)
  | 0 => by intro x hx; simp [keyS] at hx
  | i + 1 => B8_append (B8_keyS p q i) (B8_keyT p q (i + 1))
def rnds (n : Nat) : Nat := (n + 31) / 32
theorem keyT_zero {p q : List Int} : keyT p q 0 = [] := rfl
theorem keyT_succ {p q : List Int} {i : Nat} : codeM p (keyT p q i ++ q ++ [((i : Int) + 1)]) = keyT p q (i + 1) := by rw [keyT]; rfl
theorem keyS_zero {p q : List Int} : keyS p q 0 = [] := rfl
theorem keyS_succ {p q : List Int} {i : Nat} : keyS p q i ++ keyT p q (i + 1) = keyS p q (i + 1) := rfl
theorem or_zero {a b : Int} (ha : 0 ≤ a ∧ a < 256) (hb : 0 ≤ b ∧ b < 256) : (binI .or .u8 a b = 0 ↔ a = 0 ∧ b = 0) ∧ 0 ≤ binI .or .u8 a b ∧ binI .or .u8 a b < 256 := by
  obtain ⟨x, rfl⟩ := Int.eq_ofNat_of_zero_le ha.1
  obtain ⟨y, rfl⟩ := Int.eq_ofNat_of_zero_le hb.1
  have h1 : binI .or .u8 (x : Int) (y : Int) = IntKind.u8.wrap ((x ||| y : Nat) : Int) := by
    show IntKind.u8.wrap ((BitVec.ofInt 8 x ||| BitVec.ofInt 8 y).toNat : Int) = _
    congr 2
    simp only [BitVec.toNat_or, BitVec.ofInt_natCast, BitVec.toNat_ofNat]
    rw [Nat.mod_eq_of_lt (by omega), Nat.mod_eq_of_lt (by omega)]
  have h2 : x ||| y < 2 ^ 8 := Nat.or_lt_two_pow (by omega) (by omega)
  rw [h1, u8_conv (by omega)]
  refine ⟨?_, by omega⟩
  constructor
  · intro h
    have h3 : x ||| y = 0 := by omega
    have := Nat.or_eq_zero_iff.1 h3
    omega
  · rintro ⟨h3, h4⟩
    have e1 : x = 0 := by omega
    have e2 : y = 0 := by omega
    subst e1 e2; rfl
theorem xb_nat {x y : Nat} (hx : x < 256) (hy : y < 256) : xb (x : Int) (y : Int) = ((x ^^^ y : Nat) : Int) := by
  have h2 : x ^^^ y < 2 ^ 8 := Nat.xor_lt_two_pow (by omega) (by omega)
  show IntKind.u8.wrap ((BitVec.ofInt 8 x ^^^ BitVec.ofInt 8 y).toNat : Int) = _
  rw [← u8_conv (n := ((x ^^^ y : Nat) : Int)) (by omega)]
  congr 2
  simp only [BitVec.toNat_xor, BitVec.ofInt_natCast, BitVec.toNat_ofNat]
  rw [Nat.mod_eq_of_lt (by omega), Nat.mod_eq_of_lt (by omega)]
theorem xb_zero {a b : Int} (ha : 0 ≤ a ∧ a < 256) (hb : 0 ≤ b ∧ b < 256) : xb a b = 0 ↔ a = b := by
  obtain ⟨x, rfl⟩ := Int.eq_ofNat_of_zero_le ha.1
  obtain ⟨y, rfl⟩ := Int.eq_ofNat_of_zero_le hb.1
  rw [xb_nat (by omega) (by omega)]
  constructor
  · intro h
    have : x ^^^ y = 0 := by omega
    have h2 := congrArg (· ^^^ y) this
    simp only [Nat.xor_assoc, Nat.xor_self, Nat.xor_zero, Nat.zero_xor] at h2
    rw [h2]
  · intro h
    have : x = y := by omega
    subst this
    simp
theorem take_eq_succ {a b : List Int} {i : Nat} (ha : i < a.length) (hb : i < b.length) : (a.take (i + 1) = b.take (i + 1)) ↔ (a.take i = b.take i ∧ a.getD i 0 = b.getD i 0) := by
  rw [take_succ_get ha, take_succ_get hb]
  constructor
  · intro h
    have h1 := List.append_inj h (by simp; omega)
    exact ⟨h1.1, by simpa using h1.2⟩
  · rintro ⟨h1, h2⟩; rw [h1, h2]
structure Gath (a b : List Int) (i : Nat) (v : Int) : Prop where
  rng : 0 ≤ v ∧ v < 256
  iff : v = 0 ↔ a.take i = b.take i
theorem Gath.zero {a b : List Int} : Gath a b 0 0 := ⟨by omega, by simp⟩
theorem Gath.succ {a b : List Int} {i : Nat} {v : Int} (h : Gath a b i v) (ha : B8 a) (hb : B8 b) (hi : i < a.length) (hj : i < b.length) : Gath a b (i + 1) (binI .or .u8 v (xb (a.getD i 0) (b.getD i 0))) := by
  have h1 := or_zero h.rng (xb_range (a.getD i 0) (b.getD i 0))
  refine ⟨h1.2, ?_⟩
  rw [h1.1, h.iff, xb_zero (ha.get i) (hb.get i), take_eq_succ hi hj]
theorem Gath.same {a b : List Int} {i : Nat} {v : Int} (h : Gath a b i v) (ha : a.length = i) (hb : b.length = i) : decide (v = 0) = decide (a = b) := by
  rw [decide_eq_decide, h.iff, List.take_of_length_le (by omega), List.take_of_length_le (by omega)]
theorem code_eq {key m : List Int} : sha tbl (padK key 92 ++ sha tbl (padK key 54 ++ m)) = codeM key m := by unfold codeM; rfl
theorem key_sha {key : List Int} (h : 64 < key.length) : sha tbl key = key64 key := by unfold key64; rw [if_pos h]
theorem key_same {key : List Int} (h : ¬ 64 < key.length) : key = key64 key := by unfold key64; rw [if_neg h]
def padR (k : List Int) (b : Int) (i : Nat) : List Int := (k.take i).map fun c => xb c b
theorem padR_succ {k : List Int} {b : Int} {i : Nat} (h : i < k.length) : padR k b i ++ [xb (k.getD i 0) b] = padR k b (i + 1) := by
  unfold padR; rw [take_succ_get h, List.map_append]; rfl
theorem padR_end {key : List Int} {b : Int} : padR (zpad key) b 64 = padK key b := by
  have := length_zpad key
  unfold padR padK; rw [List.take_of_length_le (by omega)]
attribute [irreducible] key64 zpad padK codeM padP8 keyT keyS padR
end Go.Sk
namespace Go.Sk
open Go.RowKit
def noG (E : List (Nat × AV)) : List (Nat × AV) := E.filter fun p => Nat.blt p.1 5000000
theorem lk_noG : ∀ {E : List (Nat × AV)} {t : Nat} {av : AV}, lk (noG E) t = some av → lk E t = some av ∧ t < 5000000
  | [], t, av, h => by simp [noG, lk] at h
  | (k, v) :: r, t, av, h => by
    unfold noG at h
    rw [List.filter_cons] at h
    split at h
    · rename_i hk
      rw [lk_cons] at h ⊢
      split at h
      · rename_i e; rw [if_pos e]; exact ⟨h, by rw [← e]; exact blt_lt hk⟩
      · rename_i e; rw [if_neg e]; exact lk_noG h
    · rename_i hk
      obtain ⟨h1, h2⟩ := lk_noG h
      rw [lk_cons, if_neg (fun e => hk (by simp only [e, Nat.blt_eq]; exact h2))]
      exact ⟨h1, h2⟩
section
variable {C : Ctx} {N : Nat} {E : List (Nat × AV)} {H : Heap} {ρ : Nat → Value} {a : Act} {w : World}
theorem Dfr.noG {ds : List Deferred} (h : Marks C.w0 ds w) : Dfr C (lk (noG E)) ds w := ⟨h, fun t ht he => absurd (lk_noG he).2 (Nat.not_lt.2 ht)⟩
theorem StR.noG (h : StR C N (lk E) H ρ a w) : StR C N (lk (noG E)) H ρ a w :=
  ⟨⟨fun t av ht => h.st.env t av (lk_noG ht).1, h.st.hok, h.st.hX, fun t av ht => h.st.bE t av (lk_noG ht).1, h.st.bH⟩, h.T, .noG h.dfr.marks, h.fr, h.own, h.fix⟩
theorem StR.gh (h : StR C N (lk E) H ρ a w) {i : Nat} (hr : RecOK C.lp (5000000 + i) w) : StR C N (lk ((5000000 + i, .rp []) :: E)) H ρ a w := by
  refine ⟨⟨fun t av ht => ?_, h.st.hok, h.st.hX, fun t av ht => ?_, h.st.bH⟩, h.T, ⟨h.dfr.marks, fun t ht he => ?_⟩, h.fr, h.own, h.fix⟩
  · rw [lk_cons] at ht
    split at ht
    · rename_i e
      cases ht
      refine ⟨_, by unfold slot; rw [if_neg (by omega)], ?_⟩
      simp only [AV.sim]
      exact ⟨_, [], rfl, fun h => absurd h (Nat.lt_irrefl 0), by simp [AV.simL]⟩
    · exact h.st.env t av ht
  · rw [lk_cons] at ht
    split at ht
    · cases ht; simp [AV.inS, AV.inSL]
    · exact h.st.bE t av ht
  · rw [lk_cons] at he
    split at he
    · rename_i e; rw [← e]; exact hr
    · exact h.dfr.lp t ht he
theorem StR.setB (h : StR C N (lk E) H ρ a w) {d : Nat} {x : Bool} (hd : d < C.T) (hd6 : d < 1000000) : StR C N (lk ((d, .b x) :: E)) H ρ (a.put (some d) (.bool x)) w := by
  refine ⟨⟨fun t av ht => ?_, h.st.hok, h.st.hX, fun t av ht => ?_, h.st.bH⟩, by rw [Act.put_tmps_size]; exact h.T, by rw [Act.put_defers']; exact h.dfr.cons (fun e => by cases e), h.fr, h.own, h.fix⟩
  · rw [lk_cons] at ht
    split at ht
    · rename_i e
      cases ht
      subst e
      exact ⟨_, slot_put_eq a d _ (by rw [h.T]; exact hd) hd6, by simp [AV.sim]⟩
    · rename_i e
      obtain ⟨cv, h1, h2⟩ := h.st.env t av ht
      exact ⟨cv, by rw [slot_put_ne a _ _ (fun x hx => by cases hx; exact e)]; exact h1, h2⟩
  · rw [lk_cons] at ht
    split at ht
    · cases ht; simp [AV.inS]
    · exact h.st.bE t av ht
theorem Fr.cellL {w w' : World} {O : Nat → Prop} {L : Nat → Prop} (h : Fr w (fun b => O b ∨ L b) w') (hL : ∀ b, L b → b < w.heap.size → ∃ r, w.heap[b]? = some (.loop r)) {x : Addr} {v : Value} (hO : ¬ O x.block) (hc : w.cell? x = some v) : w'.cell? x = some v := by
  refine h.cell ?_ hc
  rintro (h1 | h1)
  · exact hO h1
  · obtain ⟨r, hr⟩ := hL _ h1 (block_lt_of_cell hc)
    unfold World.cell? at hc
    rw [hr] at hc; cases hc
theorem StR.back {a' : Act} {N' : Nat} {H' : Heap} {ρ' : Nat → Value} {w' : World} {L : Nat → Prop} {ks : List Nat} (hst : StR C N (lk E) H ρ a w) (ha : a'.tmps = a.tmps) (hfr : Fr w (fun b => owned ρ H b ∨ L b) w') (hok : HOK C.X ρ' w' H')
    (hbH : ∀ k bk, H' k = some bk → k < N' ∧ bk.inS (· < N')) (hown : ∀ b, owned ρ' H' b → (owned ρ H b ∨ L b) ∨ w.heap.size ≤ b) (hL : ∀ b, L b → b < w.heap.size → ∃ r, w.heap[b]? = some (.loop r)) (hLO : ∀ b, L b → C.O0 b ∨ C.w0.heap.size ≤ b)
    (hks : ∀ k ∈ ks, k < N' ∧ ρ' k = ρ k) (heK : ∀ t av, lk E t = some av → av.inS (· ∈ ks)) (hfix : ∀ k, C.fix k → k ∈ ks) (hm : Dfr C (lk E) a'.defers w') : StR C N' (lk E) H' ρ' a' w' := by
  have hloop : ∀ b, L b → ∀ (x : Addr) (v : Value), x.block = b → w.cell? x = some v → False := fun b hb x v hx hc => by
    obtain ⟨r, hr⟩ := hL b hb (by rw [← hx]; exact block_lt_of_cell hc)
    unfold World.cell? at hc
    rw [hx, hr] at hc; cases hc
  have hsl : ∀ t, slot a' t = slot a t := fun t => by unfold slot; rw [ha]
  refine ⟨⟨fun t av ht => ?_, hok, fun b hb => Nat.lt_of_lt_of_le (hst.st.hX b hb) hfr.size, fun t av ht => inS_mono (fun k hk => (hks k hk).1) av (heK t av ht), hbH⟩, by rw [ha]; exact hst.T, hm,
    hst.fr.trans hfr (fun x hx ho => ?_), fun b hb => ?_, fun k hk => ⟨(hks k (hfix k hk)).1, by rw [(hks k (hfix k hk)).2]; exact (hst.fix k hk).2⟩⟩
  · obtain ⟨cv, h1, h2⟩ := hst.st.env t av ht
    refine ⟨cv, by rw [hsl]; exact h1, sim_mono (S := (· ∈ ks)) (fun x v hn hc => ⟨hfr.cellL hL (fun h => hn (.inr h)) hc, ?_⟩) (fun k hk => (hks k hk).2) av cv (heK t av ht) h2⟩
    rintro (h3 | h3)
    · exact hn (.inl h3)
    · rcases hown _ h3 with (h4 | h4) | h4
      · exact hn (.inr h4)
      · exact hloop _ h4 x v rfl hc
      · exact absurd (block_lt_of_cell hc) (by omega)
  · rcases ho with ho | ho
    · rcases hst.own x ho with h | h
      · exact h
      · omega
    · rcases hLO x ho with h | h
      · exact h
      · omega
  · have := hst.fr.size
    rcases hown b hb with (h4 | h4) | h4
    · exact hst.own b h4
    · exact hLO b h4
    · right; omega
theorem cell_putLoop {l : Nat} {r : Loop} {o : Obj} (hl : w.heap[l]? = some (.loop r)) {x : Addr} {v : Value} (h : w.cell? x = some v) : (w.putObj l o).cell? x = some v := by
  have hne : x.block ≠ l := by
    intro e
    unfold World.cell? at h
    rw [e, hl] at h
    cases h
  rw [World.cell?_of_block (World.putObj_heap_other hne)]; exact h
theorem HOK.putLoop {X : Nat → Prop} {l : Nat} {r : Loop} {o : Obj} (h : HOK X ρ w H) (hl : w.heap[l]? = some (.loop r)) : HOK X ρ (w.putObj l o) H := by
  have hmw : ∀ {O : Nat → Prop} (x : Addr) (u : Value), ¬ O x.block → w.cell? x = some u → (w.putObj l o).cell? x = some u ∧ ¬ O x.block := fun x u g1 g2 => ⟨cell_putLoop hl g2, g1⟩
  have hblk : ∀ (b : Nat) (c : Array Value) (t : TypeId) (f : Nat × Nat), w.heap[b]? = some (.cells c t f) → (w.putObj l o).heap[b]? = some (.cells c t f) := by
    intro b c t f hb
    rw [World.putObj_heap_other (fun e => by rw [e, hl] at hb; cases hb)]; exact hb
  refine ⟨fun k bk hk => ?_, h.dist, h.apart⟩
  have g := h.ok k bk hk
  cases bk with
  | blk t cs =>
    obtain ⟨bl, cvs, g1, g2, g3⟩ := g
    exact ⟨bl, cvs, g1, hblk _ _ _ _ g2, simL_mono (S := fun _ => True) hmw (fun _ _ => rfl) _ _ (inSL_true _) g3⟩
  | row t sz n cs =>
    obtain ⟨g0, g | ⟨bl, cap, cur, lo, hi, g1, g2, g3, g4, g5, g6, g7⟩⟩ := g
    · exact ⟨g0, .inl g⟩
    · exact ⟨g0, .inr ⟨bl, cap, cur, lo, hi, g1, hblk _ _ _ _ g2, g3, g4, g5, g6, simL_mono (S := fun _ => True) hmw (fun _ _ => rfl) _ _ (inSL_true _) g7⟩⟩
theorem fr_putLoop {l : Nat} {o : Obj} : Fr w (fun b => b = l) (w.putObj l o) :=
  ⟨rfl, rfl, rfl, by rw [World.putObj_size]; exact Nat.le_refl _, fun k _ hk => World.putObj_heap_other hk⟩
theorem StR.putLoop {l : Nat} {r : Loop} {o : Obj} (h : StR C N (lk E) H ρ a w) (hl : w.heap[l]? = some (.loop r)) (hO : C.O0 l ∨ C.w0.heap.size ≤ l) : StR C N (lk (Go.Sk.noG E)) H ρ a (w.putObj l o) := by
  have h0 := h.noG
  refine ⟨⟨fun t av ht => ?_, h.st.hok.putLoop hl, fun b hb => by rw [World.putObj_size]; exact h.st.hX b hb, h0.st.bE, h.st.bH⟩, h.T, .noG (h.dfr.marks.step fun D hD => ?_), ?_, h.own, h.fix⟩
  · obtain ⟨cv, g1, g2⟩ := h0.st.env t av ht
    exact ⟨cv, g1, sim_mono (S := fun _ => True) (fun x u g1 g2 => ⟨cell_putLoop hl g2, g1⟩) (fun _ _ => rfl) av cv (inS_true av) g2⟩
  · rw [World.putObj_heap_other (fun e => by rw [e, hl] at hD; cases hD)]; exact hD
  · refine h.fr.trans fr_putLoop (fun x hx e => ?_)
    subst e
    rcases hO with hO | hO
    · exact hO
    · omega
end
end Go.Sk
namespace Go.Sk
open Go.RowKit
abbrev mkI (C : Ctx) (T : Nat) (ks : List Nat) (ρ : Nat → Value) (w : World) (H : Heap) (l : Nat) (r : Loop) : Ctx :=
  { P := C.P, F := C.F, n := C.n - 1, T, X := C.X, w0 := w, ρ0 := ρ, O0 := fun b => owned ρ H b ∨ b = l, fix := (· ∈ ks), lp := some (l, r) }
abbrev mkB (C : Ctx) (ks : List Nat) (ρ : Nat → Value) (w : World) (H : Heap) (l : Nat) (r : Loop) : Ctx :=
  { P := C.P, F := C.F.inRound l, n := C.n - 1 - 1, T := C.T, X := C.X, w0 := w, ρ0 := ρ, O0 := fun b => owned ρ H b ∨ b = l, fix := (· ∈ ks), lp := some (l, r) }
structure Rng (C : Ctx) (E : List (Nat × AV)) (ps : List Nat) (as bd : Code) (ks : List Nat) (ρ : Nat → Value) (w : World) (H : Heap) (l : Nat) (r : Loop) : Prop where
  state : r.state = .ready
  pend : r.pending = none
  params : r.params.toList = ps
  assign : r.assign = as
  body : r.body = bd
  size : r.tmps.size = C.T
  env : EnvOK ρ w (fun b => C.X b ∨ owned ρ H b) (lk E) { tmps := r.tmps, defers := [] }
  loop : w.heap[l]? = some (.loop r)
  eK : ∀ t av, lk E t = some av → av.inS (· ∈ ks)
  noG : ∀ t av, lk E t = some av → t < 5000000
theorem recAt_zero {r : Loop} : recAt r 0 = r := rfl
theorem nodupB_spec : ∀ {l : List Nat}, nodupB l = true → l.Nodup
  | [], _ => List.nodup_nil
  | x :: r, h => by
    simp only [nodupB, Bool.and_eq_true, Bool.not_eq_true', ← Bool.not_eq_true, memB_iff] at h
    exact List.nodup_cons.2 ⟨h.1, nodupB_spec h.2⟩
theorem lk_mem' {E : List (Nat × AV)} {t : Nat} {av : AV} {S : Nat → Prop} (h : AV.inSL S (E.map Prod.snd)) (ht : lk E t = some av) : av.inS S :=
  inSL_iff.1 h _ (List.mem_map.2 ⟨_, lk_mem ht, rfl⟩)
theorem foldl_set : ∀ (ps : List Nat) (vs : List Value) (tmps : Array Value), ps.Nodup → (∀ p ∈ ps, p < tmps.size) → ps.length = vs.length →
    ((ps.zip vs).foldl (fun tmps (t, a) => tmps.setIfInBounds t a) tmps).size = tmps.size ∧
    (∀ t : Nat, t ∉ ps → ((ps.zip vs).foldl (fun tmps (t, a) => tmps.setIfInBounds t a) tmps)[t]? = tmps[t]?) ∧
    (∀ (i : Nat) (p : Nat) (v : Value), ps[i]? = some p → vs[i]? = some v → ((ps.zip vs).foldl (fun tmps (t, a) => tmps.setIfInBounds t a) tmps)[p]? = some v)
  | [], [], _, _, _, _ => by simp
  | p :: ps, v :: vs, tmps, hn, hp, hl => by
    have hn' := List.nodup_cons.1 hn
    obtain ⟨h1, h2, h3⟩ := foldl_set ps vs (tmps.setIfInBounds p v) hn'.2 (fun q hq => by rw [Array.size_setIfInBounds]; exact hp q (List.mem_cons_of_mem _ hq)) (by simpa using hl)
    simp only [List.zip_cons_cons, List.foldl_cons]
    refine ⟨by rw [h1, Array.size_setIfInBounds], fun t ht => ?_, fun i q u hq hu => ?_⟩
    · rw [h2 t (fun h => ht (List.mem_cons_of_mem _ h)), Array.getElem?_setIfInBounds_ne (fun e => ht (by rw [← e]; exact List.mem_cons_self))]
    · cases i with
      | zero =>
        simp only [List.getElem?_cons_zero, Option.some.injEq] at hq hu
        subst hq; subst hu
        rw [h2 _ hn'.1]
        have := hp p List.mem_cons_self
        simp [this]
      | succ i => exact h3 i q u (by simpa using hq) (by simpa using hu)
  | [], _ :: _, _, _, _, hl => by simp at hl
  | _ :: _, [], _, _, _, hl => by simp at hl
theorem lk_zip : ∀ {ps : List Nat} {vs : List AV} {t : Nat} {av : AV}, lk (ps.zip vs) t = some av → ∃ i : Nat, ps[i]? = some t ∧ vs[i]? = some av
  | [], _, _, _, h => by simp [lk] at h
  | _ :: _, [], _, _, h => by simp [lk] at h
  | p :: ps, v :: vs, t, av, h => by
    rw [List.zip_cons_cons, lk_cons] at h
    split at h
    · rename_i e; cases h; exact ⟨0, by simp [e], rfl⟩
    · obtain ⟨i, h1, h2⟩ := lk_zip h
      exact ⟨i + 1, by simpa using h1, by simpa using h2⟩
theorem lk_zip_none : ∀ {ps : List Nat} {vs : List AV} {t : Nat}, ps.length = vs.length → lk (ps.zip vs) t = none → t ∉ ps
  | [], _, _, _, _ => by simp
  | _ :: _, [], _, hl, _ => by simp at hl
  | p :: ps, v :: vs, t, hl, h => by
    rw [List.zip_cons_cons, lk_cons] at h
    split at h
    · cases h
    · rename_i e
      intro hm
      rcases List.mem_cons.1 hm with hm | hm
      · exact e hm.symm
      · exact lk_zip_none (by simpa using hl) h hm
def roundQ (K : Bool → Nat → AS → Prop) (e : Exit) (s2 : AS) : Prop := lk s2.E 5000001 = some (.rp []) ∧ match e with
  | .normal => K true 0 s2
  | .ret => K false 2 s2
  | .exit i => K false (3 + i) s2
  | _ => False
theorem recAt_exit {r : Loop} {i : Nat} : recAt r (3 + i) = { r with state := .done, pending := some (.exit i) } := by rw [Nat.add_comm]; rfl
theorem WL_yield {C : Ctx} {T : Nat} {ks : List Nat} {ρ1 : Nat → Value} {w1 : World} {H1 : Heap} {l : Nat} {r : Loop} {E : List (Nat × AV)} {ps : List Nat} {as bd : Code} {ops : Array Oper} {rest : List Oper} {Q : Exit → AS → Prop}
    {N : Nat} {E1 : List (Nat × AV)} {H : List (Nat × Blk)} {d y : Nat} {xs : Array Operand} {ts : Array TypeId} {avs : List AV} {p : List (Nat × AV)} {ty : TypeId} {pos : String} {af : Array Edge} (kb : List Nat)
    (hR : Rng C E ps as bd ks ρ1 w1 H1 l r) (hC : (mkI C T ks ρ1 w1 H1 l r).Ok) (hy : lk E1 y = some (.f (1000000000 + l) [])) (hy6 : Nat.blt y 1000000 = true) (hx : OpVL E1 xs.toList avs p)
    (hlen : ps.length = avs.length) (hnd : nodupB ps = true) (hpT : (ps.all fun q => Nat.blt q C.T && Nat.blt q 1000000) = true) (hd : Nat.blt d T = true) (hd6 : Nat.blt d 1000000 = true) (hlive : lk E1 5000000 = some (.rp []))
    (hkb : ∀ k ∈ ks, k ∈ kb) (hkE : AV.inSL (· ∈ kb) (E1.map Prod.snd)) (hkN : ∀ k ∈ kb, k < N)
    (body : ∀ ρ w H', (mkB C kb ρ w H' l r).Ok → W (mkB C kb ρ w H' l r) as (thenQ (fun s1 => lk s1.E 5000000 = some (.rp []) ∧
      W (mkB C kb ρ w H' l r) bd (roundQ fun x i s2 => WL (mkI C T ks ρ1 w1 H1 l r) ops rest Q ⟨s2.N, (d, .b x) :: (5000000 + i, .rp []) :: noG E1, s2.H⟩) ⟨s1.N, (5000001, .rp []) :: noG s1.E, s1.H⟩) (fun _ _ => False)) ⟨N, ps.zip avs ++ (5000000, .rp []) :: E, H⟩) :
    WL (mkI C T ks ρ1 w1 H1 l r) ops (⟨some d, .call ⟨.value (.tmp y), xs, ts⟩, ty, pos, af, none⟩ :: rest) Q ⟨N, E1, H⟩ := by
  rintro a w ⟨ρ, hst⟩
  have hloop : w.heap[l]? = some (.loop r) := hst.dfr.lp 5000000 (Nat.le_refl _) hlive l r rfl
  have hnd' : ps.Nodup := nodupB_spec hnd
  have hpT' : ∀ q ∈ ps, q < C.T ∧ q < 1000000 := fun q hq => by
    have := List.all_eq_true.1 hpT q hq
    rw [Bool.and_eq_true] at this
    exact ⟨blt_lt this.1, blt_lt this.2⟩
  have hargs := hx.sim (ρ := ρ) (w := w) (O := fun b => C.X b ∨ owned ρ (lk H) b) (a := a) (fun t v hm => hst.st.env t v (hx.pre t v hm))
  have hlen2 : ps.length = (xs.toList.map a.eval).length := by rw [simL_length hargs]; exact hlen
  have heval : a.eval (.tmp y) = .func (.yield l) #[] #[] := by
    obtain ⟨cv, h1, h2⟩ := hst.st.env y _ hy
    simp only [AV.sim, tgt_yield] at h2
    obtain ⟨cvs, rfl, h3⟩ := h2
    have : cvs = [] := by have := simL_length h3; simpa using this
    subst this
    exact slot_eval h1 (blt_lt hy6)
  -- what the caller knows of its temporaries
  have henv : ∀ t av, lk E t = some av → ∃ cv, slot { tmps := r.tmps, defers := [] } t = some cv ∧ av.sim ρ w (fun b => C.X b ∨ owned ρ (lk H) b) cv := by
    intro t av ht
    obtain ⟨cv, h1, h2⟩ := hR.env t av ht
    refine ⟨cv, h1, sim_mono (S := (· ∈ ks)) (fun x v hn hc => ⟨hst.fr.cellL (L := (· = l)) (fun b hb _ => ⟨r, by rw [hb]; exact hR.loop⟩) (fun h => hn (.inr h)) hc, ?_⟩) (fun k hk => (hst.fix k hk).2) av cv (hR.eK t av ht) h2⟩
    rintro (h3 | h3)
    · exact hn (.inl h3)
    · rcases hst.own _ h3 with (h4 | h4) | h4
      · exact hn (.inr h4)
      · have := hR.loop
        unfold World.cell? at hc
        rw [h4, this] at hc; cases hc
      · exact absurd (block_lt_of_cell hc) (Nat.not_lt.2 h4)
  obtain ⟨tm, htm⟩ : ∃ tm, (r.params.zip (xs.map a.eval)).foldl (fun tmps (t, a) => tmps.setIfInBounds t a) r.tmps = tm := ⟨_, rfl⟩
  have hfold : tm = (ps.zip (xs.toList.map a.eval)).foldl (fun tmps (t, a) => tmps.setIfInBounds t a) r.tmps := by
    rw [← htm, ← Array.foldl_toList, Array.toList_zip, hR.params, Array.toList_map]
  obtain ⟨f1, f2, f3⟩ := foldl_set ps (xs.toList.map a.eval) r.tmps hnd' (fun q hq => by rw [hR.size]; exact (hpT' q hq).1) hlen2
  rw [← hfold] at f1 f2 f3
  have hrun : (Instr.yield l (xs.map a.eval)).run C.P w = .ok (.round l r.fn tm as bd) w := by
    rw [run_yield hloop (by rw [← Array.length_toList, ← Array.length_toList, hR.params, Array.toList_map]; exact hlen2.symm), htm, hR.assign, hR.body]
  have hok : (mkB C kb ρ w (lk H) l r).Ok := ⟨hC.fn, hC.depth, hC.mixed⟩
  -- a round begins
  have hB : StR (mkB C kb ρ w (lk H) l r) N (lk (ps.zip avs ++ (5000000, .rp []) :: E)) (lk H) ρ { tmps := tm, defers := [] } w := by
    refine ⟨⟨fun t av ht => ?_, hst.st.hok, hst.st.hX, fun t av ht => ?_, hst.st.bH⟩, by show tm.size = C.T; rw [f1]; exact hR.size, ⟨Marks.nil, fun t ht he => ?_⟩, Fr.refl _ _, fun b hb => .inl (.inl hb), fun k hk => ⟨hkN k hk, rfl⟩⟩
    · rw [lk_append] at ht
      cases hz : lk (ps.zip avs) t with
      | some av' =>
        rw [hz] at ht; simp at ht; subst ht
        obtain ⟨i, h1, h2⟩ := lk_zip hz
        obtain ⟨cv, h3, h4⟩ := simL_get hargs h2
        exact ⟨cv, by unfold slot; rw [if_pos (hpT' t (List.mem_of_getElem? h1)).2]; exact f3 i t cv h1 h3, h4⟩
      | none =>
        rw [hz] at ht
        simp only at ht
        rw [lk_cons] at ht
        split at ht
        · rename_i e
          cases ht
          subst e
          refine ⟨_, by unfold slot; rw [if_neg (by decide)], ?_⟩
          simp only [AV.sim]
          exact ⟨_, [], rfl, fun h => absurd h (Nat.lt_irrefl 0), by simp [AV.simL]⟩
        · obtain ⟨cv, h1, h2⟩ := henv t av ht
          refine ⟨cv, ?_, h2⟩
          unfold slot at h1 ⊢
          split
          · rename_i h6
            rw [if_pos h6] at h1
            exact (f2 t (lk_zip_none hlen hz)).trans h1
          · rename_i h6
            rw [if_neg h6] at h1
            exact h1
    · rw [lk_append] at ht
      cases hz : lk (ps.zip avs) t with
      | some av' =>
        rw [hz] at ht; simp at ht; subst ht
        obtain ⟨i, _, h2⟩ := lk_zip hz
        exact inSL_iff.1 (hx.bd fun t v hm => hst.st.bE t v (hx.pre t v hm)) _ (List.mem_of_getElem? h2)
      | none =>
        rw [hz] at ht
        simp only at ht
        rw [lk_cons] at ht
        split at ht
        · cases ht; simp [AV.inS, AV.inSL]
        · exact inS_mono (fun k hk => hkN k (hkb k hk)) av (hR.eK t av ht)
    · rw [lk_append] at he
      cases hz : lk (ps.zip avs) t with
      | some av' =>
        obtain ⟨i, h1, _⟩ := lk_zip hz
        exact absurd (hpT' t (List.mem_of_getElem? h1)).2 (Nat.not_lt.2 (Nat.le_trans (by decide) ht))
      | none =>
        rw [hz] at he
        simp only at he
        rw [lk_cons] at he
        split at he
        · rename_i e
          subst e
          intro l' r' hr'
          cases hr'
          exact hloop
        · exact absurd (hR.noG t _ he) (Nat.not_lt.2 ht)
  have hwant : Region.wanted (⟨some d, .call ⟨.value (.tmp y), xs, ts⟩, ty, pos, af, none⟩ : Oper) (yielded ops a.tmps) = true := by simp [Region.wanted]
  unfold wpListIn
  rw [if_pos hwant]
  refine ⟨fun f _ => hC.fn f, ?_⟩
  rw [Oper.semAt_eq _ _ _ (fun _ h => by cases h)]
  have hexec : (execOp a.eval ⟨some d, .call ⟨.value (.tmp y), xs, ts⟩, ty, pos, af, none⟩).run C.P w = .ok (.round l r.fn tm as bd) w := by
    simp only [execOp, resolve, heval, Deferred.ofValue, Sem.run_bind, Sem.run_pure, Result.andThen_ok, invoke, Array.empty_append]
    exact hrun
  rw [hexec, Oper.uponIn_round]
  refine ⟨fun h => (by rw [hC.depth] at h; cases h), ?_⟩
  -- a round ends
  have fin : ∀ (i : Nat) (x : Bool) (s2 : AS) (ρ2 : Nat → Value) (a2 : Act) (w3 : World), StR (mkB C kb ρ w (lk H) l r) s2.N (lk s2.E) (lk s2.H) ρ2 a2 w3 → w3.heap[l]? = some (.loop (recAt r 1)) →
      WL (mkI C T ks ρ1 w1 H1 l r) ops rest Q ⟨s2.N, (d, .b x) :: (5000000 + i, .rp []) :: noG E1, s2.H⟩ →
      wpListIn C.F (C.n - 1) C.P ops (fun e a' w' => ∃ s', Q e s' ∧ St (mkI C T ks ρ1 w1 H1 l r) s' a' w') rest (a.put (some d) (.bool x)) (w3.putObj l (.loop (recAt r i))) := by
    intro i x s2 ρ2 a2 w3 h2 hl3 hq
    refine hq _ _ ⟨ρ2, ?_⟩
    have hfr3 : Fr w (fun b => owned ρ (lk H) b ∨ b = l) (w3.putObj l (.loop (recAt r i))) := h2.fr.trans fr_putLoop (fun b _ hb => .inr hb)
    have hb : StR (mkI C T ks ρ1 w1 H1 l r) s2.N (lk (noG E1)) (lk s2.H) ρ2 a (w3.putObj l (.loop (recAt r i))) :=
      hst.noG.back (a' := a) (L := (· = l)) (ks := kb) rfl hfr3 (h2.st.hok.putLoop hl3) h2.st.bH h2.own (fun b hb _ => ⟨r, by rw [hb]; exact hloop⟩) (fun b hb => .inl (.inr hb)) (fun k hk => h2.fix k hk)
        (fun t av ht => lk_mem' hkE (lk_noG ht).1) hkb (Dfr.noG (hst.dfr.marks.step fun D hD => by
          rw [hfr3.block D (Array.getElem?_eq_some_iff.1 hD).1]
          · exact hD
          · rintro (h | h)
            · obtain ⟨c, t, f, hc⟩ := owned_cells hst.st.hok h; rw [hD] at hc; cases hc
            · rw [h, hloop] at hD; cases hD))
    refine (hb.gh (i := i) fun l' r' hr' => ?_).setB (blt_lt hd) (blt_lt hd6)
    cases hr'
    rw [Nat.add_sub_cancel_left]
    exact World.putObj_heap_same (Array.getElem?_eq_some_iff.1 hl3).1
  refine RoundIn.mono (roundIn_of_wpIn (R := fun e w' => ∃ v, e = .returned v ∧ wpListIn C.F (C.n - 1) C.P ops (fun e a' w' => ∃ s', Q e s' ∧ St (mkI C T ks ρ1 w1 H1 l r) s' a' w') rest (a.put (some d) v) w') (hC.fn _) ?_) (by rintro e w' ⟨v, rfl, h⟩; exact h)
  refine wpIn_mono (body ρ w (lk H) hok _ _ ⟨ρ, hB⟩) ?_
  rintro e a1 w2 ⟨s1, q, ρ1', h1⟩
  cases e with
  | normal =>
    obtain ⟨q1, q2⟩ := q
    have hl2 : w2.heap[l]? = some (.loop r) := h1.dfr.lp 5000000 (Nat.le_refl _) q1 l r rfl
    refine ⟨_, run_beginRound hl2 hR.state, ?_⟩
    have h1' := (h1.putLoop (o := .loop { r with state := .busy }) hl2 (.inl (.inr rfl))).gh (i := 1) (fun l' r' hr' => by
      cases hr'
      exact World.putObj_heap_same (Array.getElem?_eq_some_iff.1 hl2).1)
    refine wpIn_mono (q2 _ _ ⟨ρ1', h1'⟩) ?_
    rintro e a2 w3 ⟨s2, ⟨hg, q⟩, ρ2, h2⟩
    have hl3 : w3.heap[l]? = some (.loop (recAt r 1)) := h2.dfr.lp 5000001 (by decide) hg l r rfl
    cases e with
    | normal =>
      refine ⟨_, _, run_endRound none hl3, _, rfl, ?_⟩
      have := fin 0 true s2 ρ2 a2 w3 h2 hl3 q
      rw [recAt_zero] at this
      have hr : ({ recAt r 1 with state := (if (none : Option Code).isNone then .ready else .done), pending := none } : Loop) = r := by
        show ({ r with state := .ready, pending := none } : Loop) = r
        rw [← hR.state, ← hR.pend]
      rw [hr]; exact this
    | ret => exact ⟨_, _, run_endRound (some .ret) hl3, _, rfl, fin 2 false s2 ρ2 a2 w3 h2 hl3 q⟩
    | exit i =>
      refine ⟨_, _, run_endRound (some (.exit i)) hl3, _, rfl, ?_⟩
      have := fin (3 + i) false s2 ρ2 a2 w3 h2 hl3 q
      rw [recAt_exit] at this
      exact this
    | goto t => exact q.elim
    | panic c => exact q.elim
    | outgrown => exact q.elim
  | exit i => exact q.elim
  | ret => exact q.elim
  | goto t => exact q.elim
  | panic c => exact q.elim
  | outgrown => exact q.elim
theorem rd_n {K : Bool → Nat → AS → Prop} {s2 : AS} (h : lk s2.E 5000001 = some (.rp [])) (k : K true 0 s2) : roundQ K .normal s2 := ⟨h, k⟩
theorem rd_x {K : Bool → Nat → AS → Prop} {i : Nat} {s2 : AS} (h : lk s2.E 5000001 = some (.rp [])) (k : K false (3 + i) s2) : roundQ K (.exit i) s2 := ⟨h, k⟩
attribute [irreducible] roundQ
end Go.Sk
namespace Go.Sk
open Go.RowKit
def rangeQ (E : List (Nat × AV)) (Q : Exit → AS → Prop) (e : Exit) (s : AS) : Prop := (e = .normal ∨ e = .ret) ∧
  ((lk s.E 5000000 = some (.rp []) ∧ Q .normal ⟨s.N, E, s.H⟩) ∨ (lk s.E 5000002 = some (.rp []) ∧ Q .ret ⟨s.N, E, s.H⟩) ∨ ∃ i, lk s.E (5000003 + i) = some (.rp []) ∧ Q (.exit i) ⟨s.N, E, s.H⟩)
theorem rq_x {E : List (Nat × AV)} {Q : Exit → AS → Prop} {e : Exit} {s : AS} (i : Nat) (he : e = .normal ∨ e = .ret) (h : lk s.E (5000003 + i) = some (.rp [])) (q : Q (.exit i) ⟨s.N, E, s.H⟩) : rangeQ E Q e s := ⟨he, .inr (.inr ⟨i, h, q⟩)⟩
theorem W_range {C : Ctx} {N t fid T : Nat} {E G : List (Nat × AV)} {H : List (Nat × Blk)} {caps : List AV} {ps : Array Tmp} {as bd code : Code} {fn : Func} {Q : Exit → AS → Prop} (ks : List Nat) (hC : C.Ok) (hro : C.F.round = none) (hlp : C.lp = none)
    (ht : lk E t = some (.f fid caps)) (ht6 : Nat.blt t 1000000 = true) (hfid : Nat.blt fid 1000000000 = true) (hf : C.P.funcs[fid]? = some fn) (hb : fn.body = some code) (hT : fn.ntmps = T) (hnm : (fn.name == "runtime.NumGoroutine") = false)
    (hle : Nat.ble (caps.length + 1) T = true) (hT6 : Nat.ble T 1000000 = true) (hres : fn.results.toList = []) (hg : Glob E G) (hG : (E.all fun p => Nat.blt p.1 5000000) = true) (heK : AV.inSL (· ∈ ks) (E.map Prod.snd)) (hfix : ∀ k, C.fix k → k ∈ ks) (hkN : ∀ k ∈ ks, k < N)
    (walk : ∀ ρ w H' l r, (mkI C T ks ρ w H' l r).Ok → Rng C E ps.toList as bd ks ρ w H' l r → W (mkI C T ks ρ w H' l r) code (rangeQ E Q) ⟨N, argE 0 (.f (1000000000 + l) [] :: caps) ++ (G ++ [(5000000, .rp [])]), H⟩) :
    W C (.rangeFunc (.tmp t) ps as bd) Q ⟨N, E, H⟩ := by
  rintro a w ⟨ρ, hst⟩
  refine wpIn_rangeFunc fun fnid hfnid => ?_
  rw [hro]
  have hE5 : ∀ u av, lk E u = some av → u < 5000000 := fun u av hu => blt_lt (List.all_eq_true.1 hG _ (lk_mem hu))
  have heK' : ∀ u av, lk E u = some av → av.inS (· ∈ ks) := fun u av hu => lk_mem' heK hu
  obtain ⟨r, hr⟩ : ∃ r : Loop, r = { state := .ready, pending := none, fn := fnid, tmps := a.tmps, params := ps, assign := as, body := bd, defers := w.heap.size } := ⟨_, rfl⟩
  obtain ⟨w1, hw1⟩ : ∃ w1, w1 = (w.alloc (.deferred (some []))).alloc (.loop r) := ⟨_, rfl⟩
  have hsz : w1.heap.size = w.heap.size + 2 := by rw [hw1]; simp
  have hold : ∀ k, k < w.heap.size → w1.heap[k]? = w.heap[k]? := fun k hk => by
    rw [hw1]; exact (Below.heap_alloc _ _ k (by simp; omega)).trans (Below.heap_alloc _ _ k hk)
  have hLw : w1.heap[w.heap.size + 1]? = some (.loop r) := by
    have := World.alloc_heap_new (w.alloc (.deferred (some []))) (.loop r)
    rw [World.size_alloc] at this
    rw [hw1]; exact this
  have hDw : w1.heap[w.heap.size]? = some (.deferred (some [])) := by
    rw [hw1]; exact (Below.heap_alloc _ _ _ (by simp)).trans (World.alloc_heap_new w _)
  have hfr1 : Fr w (fun _ => False) w1 := ⟨by rw [hw1]; rfl, by rw [hw1]; rfl, by rw [hw1]; rfl, by omega, fun k hk _ => hold k hk⟩
  have hcell : ∀ (x : Addr) (v : Value), w.cell? x = some v → w1.cell? x = some v := fun x v h => hfr1.cell (fun h => h.elim) h
  have hmw : ∀ {O : Nat → Prop} (x : Addr) (u : Value), ¬ O x.block → w.cell? x = some u → w1.cell? x = some u ∧ ¬ O x.block := fun x u g1 g2 => ⟨hcell x u g2, g1⟩
  -- the function that is ranged over
  obtain ⟨cv, hcv, hsim⟩ := hst.st.env t _ ht
  simp only [AV.sim, tgt_func hfid] at hsim
  obtain ⟨cvs, rfl, hcaps⟩ := hsim
  have heval : a.eval (.tmp t) = .func (.func fid) #[] cvs.toArray := slot_eval hcv (blt_lt ht6)
  have hent : Ent C.P fid := ⟨fn, hf, hnm, by rw [hb]; rfl⟩
  refine ⟨w.heap.size + 1, [{ target := .collected w.heap.size, args := #[] }], w1, { target := .fn (.func fid) cvs.toArray, args := #[Value.func (.yield (w.heap.size + 1)) #[] #[]] }, w1, fid,
    #[Value.func (.yield (w.heap.size + 1)) #[] #[]] ++ cvs.toArray, w1, ?_, ?_, fun f' _ => hC.fn f', ?_, fun h => (by rw [hC.depth] at h; cases h), ?_⟩
  · rw [hw1, hr]; exact run_enterLoop_outer _ _ _ _ _
  · unfold resolve
    simp only [rangeCall, heval]
    simp [Deferred.ofValue, Act.eval]
  · exact hent.run _ _
  -- its text
  have hok1 : HOK C.X ρ w1 (lk H) := by
    refine ⟨fun k bk hk => ?_, hst.st.hok.dist, hst.st.hok.apart⟩
    exact Blk.ok_mono (S := fun _ => True) hmw (fun _ _ => rfl) trivial (fun b _ hlt => hold b hlt) bk (by cases bk <;> exact inSL_true _) (hst.st.hok.ok k bk hk)
  have hI : (mkI C T ks ρ w1 (lk H) (w.heap.size + 1) r).Ok := ⟨hC.fn, hC.depth, hC.mixed⟩
  have hRng : Rng C E ps.toList as bd ks ρ w1 (lk H) (w.heap.size + 1) r := by
    refine ⟨by rw [hr], by rw [hr], by rw [hr], by rw [hr], by rw [hr], by rw [hr]; exact hst.T, fun u av hu => ?_, hLw, heK', hE5⟩
    obtain ⟨c, h1, h2⟩ := hst.st.env u av hu
    exact ⟨c, by rw [hr]; exact h1, sim_mono (S := fun _ => True) hmw (fun _ _ => rfl) av c (inS_true av) h2⟩
  have hargs : AV.simL ρ w1 (fun b => C.X b ∨ owned ρ (lk H) b) (.f (1000000000 + (w.heap.size + 1)) [] :: caps) (Value.func (.yield (w.heap.size + 1)) #[] #[] :: cvs) := by
    simp only [AV.simL, AV.sim, tgt_yield]
    exact ⟨⟨[], rfl, by simp [AV.simL]⟩, simL_mono (S := fun _ => True) hmw (fun _ _ => rfl) _ _ (inSL_true _) hcaps⟩
  have hst1 : St (mkI C T ks ρ w1 (lk H) (w.heap.size + 1) r) ⟨N, argE 0 (.f (1000000000 + (w.heap.size + 1)) [] :: caps) ++ (G ++ [(5000000, .rp [])]), H⟩
      { tmps := (#[Value.func (.yield (w.heap.size + 1)) #[] #[]] ++ cvs.toArray) ++ Array.replicate (fn.ntmps - (#[Value.func (.yield (w.heap.size + 1)) #[] #[]] ++ cvs.toArray).size) undef, defers := [] } w1 := by
    have hcl : cvs.length = caps.length := simL_length hcaps
    have hle' := Nat.le_of_ble_eq_true hle
    have hle6 := Nat.le_of_ble_eq_true hT6
    have hlook : ∀ u av, lk (argE 0 (.f (1000000000 + (w.heap.size + 1)) [] :: caps) ++ (G ++ [(5000000, .rp [])])) u = some av →
        (∃ v, (Value.func (.yield (w.heap.size + 1)) #[] #[] :: cvs : List Value)[u]? = some v ∧ u < T ∧ (AV.f (1000000000 + (w.heap.size + 1)) [] :: caps)[u]? = some av) ∨ (lk E u = some av ∧ 1000000 ≤ u ∧ av.inS (fun _ => False)) ∨ (u = 5000000 ∧ av = .rp []) := by
      intro u av hu
      rw [lk_append] at hu
      cases hc : lk (argE 0 (.f (1000000000 + (w.heap.size + 1)) [] :: caps)) u with
      | some av' =>
        rw [hc] at hu; simp at hu; subst hu
        obtain ⟨_, h2⟩ := lk_argE _ _ _ _ hc
        obtain ⟨cv, h3, h4⟩ := simL_get hargs h2
        have hlt := (List.getElem?_eq_some_iff.1 h3).1
        simp only [Nat.sub_zero, List.length_cons] at h3 hlt h2
        exact .inl ⟨cv, h3, by omega, h2⟩
      | none =>
        rw [hc] at hu
        simp only at hu
        rw [lk_append] at hu
        cases hc2 : lk G u with
        | some av' =>
          rw [hc2] at hu; simp at hu; subst hu
          exact .inr (.inl (hg u av' (lk_mem hc2)))
        | none =>
          rw [hc2] at hu
          simp only at hu
          rw [lk_cons] at hu
          split at hu
          · rename_i e; cases hu; exact .inr (.inr ⟨e.symm, rfl⟩)
          · simp [lk] at hu
    refine ⟨ρ, ⟨⟨fun u av hu => ?_, hok1, fun b hb => Nat.lt_of_lt_of_le (hst.st.hX b hb) (by omega), fun u av hu => ?_, hst.st.bH⟩, ?_, ⟨Marks.nil, fun u hu he => ?_⟩, Fr.refl _ _, fun b hb => .inl (.inl hb), fun k hk => ⟨hkN k hk, rfl⟩⟩⟩
    · rcases hlook u av hu with ⟨v, h1, h2, h3⟩ | ⟨h1, h2, h3⟩ | ⟨rfl, rfl⟩
      · obtain ⟨v', h4, h5⟩ := simL_get hargs h3
        rw [h1] at h4; cases h4
        refine ⟨v, ?_, h5⟩
        unfold slot
        rw [if_pos (by omega)]
        have hlt := (List.getElem?_eq_some_iff.1 h1).1
        simp only [List.length_cons] at hlt
        rw [Array.getElem?_append_left (by simp; omega)]
        have : (#[Value.func (.yield (w.heap.size + 1)) #[] #[]] ++ cvs.toArray : Array Value) = (Value.func (.yield (w.heap.size + 1)) #[] #[] :: cvs).toArray := by apply Array.ext'; simp
        rw [this]; simpa using h1
      · obtain ⟨c, h4, h5⟩ := hst.st.env u av h1
        refine ⟨c, ?_, sim_mono (S := fun _ => True) hmw (fun _ _ => rfl) av c (inS_true av) h5⟩
        unfold slot at h4 ⊢
        rw [if_neg (by omega)] at h4 ⊢
        exact h4
      · refine ⟨_, by unfold slot; rw [if_neg (by decide)], ?_⟩
        simp only [AV.sim]
        exact ⟨_, [], rfl, fun h => absurd h (Nat.lt_irrefl 0), by simp [AV.simL]⟩
    · rcases hlook u av hu with ⟨v, h1, h2, h3⟩ | ⟨h1, h2, h3⟩ | ⟨rfl, rfl⟩
      · cases u with
        | zero => simp at h3; subst h3; simp [AV.inS, AV.inSL]
        | succ u =>
          have hb2 := hst.st.bE t _ ht
          simp only [AV.inS] at hb2
          exact inSL_iff.1 hb2 _ (List.mem_of_getElem? (by simpa using h3))
      · exact inS_mono (fun _ h => h.elim) _ h3
      · simp [AV.inS, AV.inSL]
    · show (_ : Array Value).size = T
      simp only [Array.size_append, List.size_toArray, Array.size_replicate, List.length_cons, List.length_nil]; omega
    · rcases hlook u _ he with ⟨v, h1, h2, h3⟩ | ⟨h1, h2, h3⟩ | ⟨rfl, _⟩
      · exact absurd hu (by omega)
      · exact absurd (hE5 u _ h1) (by omega)
      · intro l' r' hr'
        cases hr'
        exact hLw
  refine callsIn_of_wp_marks hf hb (hC.fn fid) ?_ hro
  refine wpIn_mono (walk ρ w1 (lk H) (w.heap.size + 1) r hI hRng _ _ hst1) ?_
  rintro e a' w3 ⟨s', hq, ρ', hst'⟩
  -- on in the caller's place
  have back : ∀ (w4 : World) (tm : Array Value) (o : Obj) (r' : Loop), StR (mkI C T ks ρ w1 (lk H) (w.heap.size + 1) r) s'.N (lk s'.E) (lk s'.H) ρ' { tmps := tm, defers := [] } w4 → w4.heap[w.heap.size + 1]? = some (.loop r') →
      St C ⟨s'.N, E, s'.H⟩ { a with defers := [{ target := .collected w.heap.size, args := #[] }] ++ a.defers } (w4.putObj (w.heap.size + 1) o) := by
    intro w4 tm o r' h4 hl4
    have hfr : Fr w (fun b => owned ρ (lk H) b ∨ b = w.heap.size + 1) (w4.putObj (w.heap.size + 1) o) :=
      ((hfr1.mono (O' := fun b => owned ρ (lk H) b ∨ b = w.heap.size + 1) fun _ h => h.elim).trans h4.fr (fun _ _ h => h)).trans fr_putLoop (fun b _ hb => .inr hb)
    have hoth : ∀ (D : Nat) (o' : Obj), w.heap[D]? = some o' → (∀ c t f, o' ≠ .cells c t f) → (w4.putObj (w.heap.size + 1) o).heap[D]? = some o' := by
      intro D o' hD hne
      have hlt := (Array.getElem?_eq_some_iff.1 hD).1
      rw [hfr.block D hlt]
      · exact hD
      · rintro (h | h)
        · obtain ⟨c, t, f, hc⟩ := owned_cells hst.st.hok h
          rw [hD] at hc; cases hc; exact hne _ _ _ rfl
        · omega
    refine ⟨ρ', hst.back (L := (· = w.heap.size + 1)) (ks := ks) rfl hfr (h4.st.hok.putLoop hl4) h4.st.bH (fun b hb => ?_) (fun b hb hlt => ?_) (fun b hb => .inr ?_) (fun k hk => h4.fix k hk) heK' hfix ⟨?_, fun _ _ _ l' r' hr' => ?_⟩⟩
    · rcases h4.own b hb with h | h
      · exact .inl h
      · exact .inr (by have : w1.heap.size ≤ b := h; omega)
    · omega
    · have := hst.fr.size; omega
    · obtain ⟨bs, m1, m2, m3⟩ := hst.dfr.marks
      refine ⟨w.heap.size :: bs, List.nodup_cons.2 ⟨fun hm => ?_, m1⟩, by simp only [m2, List.map_cons, List.singleton_append], fun D hD => ?_⟩
      · exact absurd (Array.getElem?_eq_some_iff.1 (m3 _ hm).2).1 (Nat.lt_irrefl _)
      · rcases List.mem_cons.1 hD with rfl | hD
        · refine ⟨hst.fr.size, ?_⟩
          rw [World.putObj_heap_other (by omega), h4.fr.block w.heap.size (by show _ < w1.heap.size; omega)]
          · exact hDw
          · rintro (h | h)
            · exact absurd (owned_lt hst.st.hok h) (Nat.lt_irrefl _)
            · omega
        · exact ⟨(m3 D hD).1, hoth D _ (m3 D hD).2 (fun _ _ _ e => by cases e)⟩
    · rw [hlp] at hr'; cases hr'
  obtain ⟨he, hq⟩ := hq
  have key : ∀ w', StR (mkI C T ks ρ w1 (lk H) (w.heap.size + 1) r) s'.N (lk s'.E) (lk s'.H) ρ' { tmps := a'.tmps, defers := [] } w' → ∃ cv, (results fn a'.tmps).run C.P w' = .ok cv w' ∧
      rangePost C.F C.n C.P (w.heap.size + 1) (fun e a' w' => ∃ s', Q e s' ∧ St C s' a' w') { a with defers := [{ target := .collected w.heap.size, args := #[] }] ++ a.defers } (.returned cv) w' := by
    intro w' h'
    have hrl : ResL C.P s' fn.results.toList [] := by rw [hres]; exact .nil
    obtain ⟨cv, g1, _⟩ := results_run (P := C.P) hrl (a := { tmps := a'.tmps, defers := [] }) h'.st.env h'.st.hok.ok
    refine ⟨cv, g1, ?_⟩
    rcases hq with ⟨h1, h2⟩ | ⟨h1, h2⟩ | ⟨i, h1, h2⟩
    · have hl := h'.dfr.lp 5000000 (Nat.le_refl _) h1 _ _ rfl
      refine ⟨_, _, run_endLoop hl (by show r.state ≠ _; rw [hr]; simp), ?_⟩
      have hp : (recAt r (5000000 - 5000000)).pending = none := by show r.pending = none; rw [hr]
      rw [hp]
      exact ⟨_, h2, back w' _ _ _ h' hl⟩
    · have hl := h'.dfr.lp 5000002 (by decide) h1 _ _ rfl
      refine ⟨_, _, run_endLoop hl (by simp [recAt]), ?_⟩
      exact wpIn_ret ⟨_, h2, back w' _ _ _ h' hl⟩
    · have hl := h'.dfr.lp (5000003 + i) (by omega) h1 _ _ rfl
      rw [show 5000003 + i - 5000000 = 3 + i by omega, recAt_exit] at hl
      refine ⟨_, _, run_endLoop hl (by simp), ?_⟩
      exact wpIn_exit ⟨_, h2, back w' _ _ _ h' hl⟩
  have lv : LeavesInM C.F (C.n - 1) C.P fn a'.tmps (rangePost C.F C.n C.P (w.heap.size + 1) (fun e a' w' => ∃ s', Q e s' ∧ St C s' a' w') { a with defers := [{ target := .collected w.heap.size, args := #[] }] ++ a.defers }) a'.defers .returning w3 := by
    obtain ⟨bs, m1, m2, m3⟩ := hst'.dfr.marks
    rw [m2]
    refine leave_marks (C := mkI C T ks ρ w1 (lk H) (w.heap.size + 1) r) bs w3 m1 m3 ?_ (fun w2 h2 => key w2 h2)
    have e : ({ tmps := a'.tmps, defers := bs.map (fun D => { target := .collected D, args := #[] }) } : Act) = a' := by rw [← m2]
    rw [e]; exact hst'
  rcases he with rfl | rfl
  · exact lv
  · exact lv
theorem weakG {C : Ctx} {N N2 : Nat} {E E2 : List (Nat × AV)} {H H2 : List (Nat × Blk)} (τ : Nat → Nat) (hE : WE E τ N2 C.T E2) (hH : WH H τ N2 H2) (hn : nodupB (H2.map fun p => τ p.1) = true) (hf : ∀ k, C.fix k → k < N2 ∧ τ k = k) :
    Weak C ⟨N, E, H⟩ ⟨N2, E2, H2⟩ := by
  intro a w' hs
  refine Sub.st (τ := τ) (s := ⟨N, E, H⟩) ⟨fun t av ht => (hE.spec t av ht).1, fun k bk hk => ⟨_, (hH.spec k bk hk).1, by cases bk <;> rfl⟩, nodupB_inj hn, fun t av ht => (hE.spec t av ht).2.1,
    fun k bk hk => (hH.spec k bk hk).2, hf⟩ ?_ hs
  exact fun t ht => (hE.spec t .un ht).2.2 rfl
theorem WL_eqnil {C : Ctx} {ops : Array Oper} {rest : List Oper} {Q : Exit → AS → Prop} {N n : Nat} {E : List (Nat × AV)} {H : List (Nat × Blk)} {d : Nat} {xt yt e : TypeId} {x : Operand} {xs : List AV} {p : List (Nat × AV)} {op : BinOp} {ty : TypeId} {pos : String} {af : Array Edge}
    (hC : C.Ok) (hop : op = .eql ∨ op = .neq) (hx : OpV E x (.vs n xs) p) (hu : C.P.underlying xt = some (.slice e)) (hd : Nat.blt d C.T = true) (hd6 : Nat.blt d 1000000 = true)
    (h : ∀ z : Bool, (z = true → xs = []) → WL C ops rest Q ⟨N, (d, .b (if op = .eql then z else !z)) :: E, H⟩) :
    WL C ops (⟨some d, .binOp op xt x (.const (.slice none 0 0)) yt, ty, pos, af, none⟩ :: rest) Q ⟨N, E, H⟩ := by
  rintro a w ⟨ρ, hst⟩
  have h1 := hx.sim (ρ := ρ) (w := w) (O := fun b => C.X b ∨ owned ρ (lk H) b) (a := a) (fun t v hm => hst.st.env t v (hx.pre t v hm))
  simp only [AV.sim] at h1
  obtain ⟨ad, cap, cvs, h2, h3, h4, h5⟩ := h1
  have hwant : Region.wanted (⟨some d, .binOp op xt x (.const (.slice none 0 0)) yt, ty, pos, af, none⟩ : Oper) (yielded ops a.tmps) = true := by simp [Region.wanted]
  have hz : ad.isNone = true → xs = [] := by
    intro hz
    have hl := simL_length h5
    cases hc : cvs with
    | nil => rw [hc] at hl; exact List.eq_nil_of_length_eq_zero hl.symm
    | cons c r =>
      obtain ⟨q, rfl, _⟩ := h4 (by rw [hc]; simp)
      cases hz
  unfold wpListIn
  rw [if_pos hwant]
  refine ⟨fun f _ => hC.fn f, ?_⟩
  rw [Oper.semAt_eq _ _ _ (fun _ h => by cases h)]
  have hg : (eqGuard op xt x (.const (.slice none 0 0)) (.slice ad n cap) (.slice none 0 0)).run C.P w = .ok () w := by
    unfold eqGuard
    rcases hop with rfl | rfl <;> rfl
  have hexec : (execOp a.eval ⟨some d, .binOp op xt x (.const (.slice none 0 0)) yt, ty, pos, af, none⟩).run C.P w = .ok (.value (.bool (if op = .eql then ad.isNone else !ad.isNone))) w := by
    have e2 : a.eval (.const (.slice none 0 0)) = .slice none 0 0 := rfl
    simp only [execOp, h2, e2, Sem.run_bind, hg, Result.andThen_ok]
    rcases hop with rfl | rfl <;> simp [binOp, run_equal_slice_nil (P := C.P) w xt e ad n cap hu]
  rw [hexec, Oper.uponIn_value]
  exact h ad.isNone hz _ _ ⟨ρ, hst.setB (blt_lt hd) (blt_lt hd6)⟩
theorem weakK {C : Ctx} {ks : List Nat} {N N2 : Nat} {E E2 : List (Nat × AV)} {H H2 : List (Nat × Blk)} (τ : Nat → Nat) (hE : WE E τ N2 C.T E2) (hH : WH H τ N2 H2) (hn : nodupB (H2.map fun p => τ p.1) = true) (hks : C.fix = (· ∈ ks))
    (hf : (ks.all fun k => Nat.blt k N2 && Nat.beq (τ k) k) = true) : Weak C ⟨N, E, H⟩ ⟨N2, E2, H2⟩ := weakG τ hE hH hn fun k hk => by
  rw [hks] at hk
  have := List.all_eq_true.1 hf k hk
  simp only [Bool.and_eq_true, Nat.beq_eq] at this
  exact ⟨blt_lt this.1, this.2⟩
theorem WL_weak {C : Ctx} {ops : Array Oper} {l : List Oper} {Q : Exit → AS → Prop} {s s2 : AS} (h : Weak C s s2) (hw : WL C ops l Q s2) : WL C ops l Q s := fun a w hs => hw a w (h a w hs)
attribute [irreducible] rangeQ
end Go.Sk
namespace Go.Sk
open Go.RowKit
section
variable {C : Ctx} {N : Nat} {E : List (Nat × AV)} {H : List (Nat × Blk)} {d : Nat} {ty : TypeId} {pos : String} {af : Array Edge} {g : Option (Nat × Bool)}
end
theorem u8_wf {n : Int} (h : (Lit.int .u8 n).wf = true) : 0 ≤ n ∧ n < 256 := b8_wf (l := [n]) (by intro w hw; simp only [List.mem_singleton] at hw; subst hw; exact h) n List.mem_cons_self
theorem weak_nilB {C : Ctx} {N : Nat} {E : List (Nat × AV)} {H H2 : List (Nat × Blk)} {j i : Nat} {t0 e : TypeId} {sz : Nat} {cs : List AV} (hj : lk H j = some (.blk t0 cs)) (hi : cs[i]? = some .nils) (hS : SetK H j (.blk t0 (cs.set i (.row N))) H2) :
    Weak C ⟨N, E, H⟩ ⟨N + 1, E, (N, .row e sz 0 []) :: H2⟩ := by
  rintro a w ⟨ρ, ⟨hEn, hH, hX, hbE, hbH⟩, h1, h2, h3, h4, h5⟩
  have hne : ∀ k, k < N → upd1 ρ N (.slice none 0 0) k = ρ k := fun k hk => upd1_ne (by omega)
  have hkey : ∀ k b, lk H k = some b → k < N := fun k b hk => (hbH k b hk).1
  have hlk : ∀ k, lk H2 k = if k = j then some (.blk t0 (cs.set i (.row N))) else lk H k := fun k => by
    rw [hS.spec (bk := .blk t0 cs) k]
    unfold upd
    rw [lk_cons, lk_cons]
    by_cases h : j = k
    · subst h; simp
    · simp [h, Ne.symm h, lk]
  have hkey2 : ∀ k b, lk H2 k = some b → k < N := fun k b hk => by
    rw [hlk] at hk
    split at hk
    · rename_i e; rw [e]; exact hkey j _ hj
    · exact hkey k b hk
  have hown : ∀ b, owned (upd1 ρ N (.slice none 0 0)) (lk ((N, .row e sz 0 []) :: H2)) b ↔ owned ρ (lk H) b := by
    intro b
    constructor
    · rintro ⟨k, c, hk, hb⟩
      rw [lk_cons] at hk
      split at hk
      · rename_i he; subst he; rw [upd1_eq] at hb; simp [blkOf] at hb
      · rw [hne k (hkey2 k c hk)] at hb
        rw [hlk] at hk
        split at hk
        · rename_i e; exact ⟨j, _, hj, by rw [← e]; exact hb⟩
        · exact ⟨k, c, hk, hb⟩
    · rintro ⟨k, c, hk, hb⟩
      have := hkey k c hk
      by_cases e : k = j
      · exact ⟨k, _, by rw [lk_cons, if_neg (by omega), hlk, if_pos e], by rw [hne k this]; exact hb⟩
      · exact ⟨k, c, by rw [lk_cons, if_neg (by omega), hlk, if_neg e]; exact hk, by rw [hne k this]; exact hb⟩
  have hO : (fun b => C.X b ∨ owned (upd1 ρ N (.slice none 0 0)) (lk ((N, .row e sz 0 []) :: H2)) b) = (fun b => C.X b ∨ owned ρ (lk H) b) := funext fun b => by rw [hown b]
  have hconv : ∀ (x : AV) (v : Value), x.inS (· < N) → x.sim ρ w (fun b => C.X b ∨ owned ρ (lk H) b) v → x.sim (upd1 ρ N (.slice none 0 0)) w (fun b => C.X b ∨ owned ρ (lk H) b) v :=
    fun x v hx hs => sim_mono (S := (· < N)) (fun a v h1 h2 => ⟨h2, h1⟩) hne x v hx hs
  refine ⟨upd1 ρ N (.slice none 0 0), ⟨?_, ⟨?_, ?_, ?_⟩, hX, ?_, ?_⟩, h1, h2, h3, fun b hb => h4 b ((hown b).1 hb), fun k hk => ⟨Nat.lt_succ_of_lt (h5 k hk).1, by rw [hne k (h5 k hk).1]; exact (h5 k hk).2⟩⟩
  · intro u av hu
    simp only at hu
    rw [hO]
    obtain ⟨cv, h6, h7⟩ := hEn u av hu
    exact ⟨cv, h6, hconv av cv (hbE u av hu) h7⟩
  · intro k bk hk
    rw [hO]
    simp only at hk
    rw [lk_cons] at hk
    split at hk
    · rename_i he; subst he; simp at hk; subst hk
      exact ⟨by simp, .inl ⟨upd1_eq, rfl⟩⟩
    · have hlt := hkey2 k bk hk
      rw [hlk] at hk
      split at hk
      · rename_i e1
        cases hk
        subst e1
        obtain ⟨bl, cvs, g1, g2, g3⟩ := hH.ok k _ hj
        refine ⟨bl, cvs, by rw [hne k hlt]; exact g1, g2, ?_⟩
        have hbc := (hbH k _ hj).2
        refine simL_of_get (by rw [List.length_set]; exact simL_length g3) fun q x v hx hv => ?_
        obtain ⟨y, hy, hyv⟩ := simL_getV g3 hv
        by_cases hq : i = q
        · subst hq
          rw [List.getElem?_set_self (List.getElem?_eq_some_iff.1 hi).1] at hx
          cases hx
          rw [hi] at hy; cases hy
          simp only [AV.sim] at hyv ⊢
          exact ⟨by rw [hyv, upd1_eq], none, 0, 0, hyv⟩
        · rw [List.getElem?_set_ne hq] at hx
          rw [hx] at hy; cases hy
          exact hconv x v (inSL_iff.1 hbc x (List.mem_of_getElem? hx)) hyv
      · exact Blk.ok_conv bk (hne k hlt) (fun vs hvs => simL_mono (S := (· < N)) (fun a v h1 h2 => ⟨h2, h1⟩) hne _ _ (hbH k bk hk).2 hvs) (hH.ok k bk hk)
  · intro k k' b hk hk' hb hb'
    have hb0 : ∀ k, lk ((N, Blk.row e sz 0 []) :: H2) k ≠ none → ∀ b, blkOf (upd1 ρ N (.slice none 0 0) k) = some b → lk H k ≠ none ∧ blkOf (ρ k) = some b := by
      intro k hk b hb
      rw [lk_cons] at hk
      split at hk
      · rename_i he; subst he; rw [upd1_eq] at hb; simp [blkOf] at hb
      · obtain ⟨c, hc⟩ := Option.ne_none_iff_exists'.1 hk
        rw [hne k (hkey2 k c hc)] at hb
        refine ⟨?_, hb⟩
        rw [hlk] at hc
        split at hc
        · rename_i e1; rw [e1, hj]; simp
        · rw [hc]; simp
    obtain ⟨f1, f2⟩ := hb0 k hk b hb
    obtain ⟨f3, f4⟩ := hb0 k' hk' b hb'
    exact hH.dist k k' b f1 f3 f2 f4
  · exact fun b hb => hH.apart b ((hown b).1 hb)
  · exact fun u av hu => inS_mono (fun k hk => Nat.lt_succ_of_lt hk) av (hbE u av hu)
  · intro k bk hk
    simp only at hk
    rw [lk_cons] at hk
    split at hk
    · rename_i he; subst he; simp at hk; subst hk
      exact ⟨Nat.lt_succ_self _, by simp [Blk.inS, Blk.cs, AV.inSL]⟩
    · have hlt := hkey2 k bk hk
      refine ⟨Nat.lt_succ_of_lt hlt, ?_⟩
      rw [hlk] at hk
      split at hk
      · cases hk
        show AV.inSL _ (cs.set i (.row N))
        rw [inSL_iff]
        intro x hx
        rcases List.mem_or_eq_of_mem_set hx with h6 | h6
        · exact inS_mono (fun k hk => Nat.lt_succ_of_lt hk) x (inSL_iff.1 (hbH j _ hj).2 x h6)
        · rw [h6]; simp only [AV.inS]; exact Nat.lt_succ_self _
      · exact inSL_mono (fun k hk => Nat.lt_succ_of_lt hk) _ (hbH k bk hk).2
section
variable {C : Ctx} {N : Nat} {E : List (Nat × AV)} {H : List (Nat × Blk)} {d : Nat} {ty : TypeId} {pos : String} {af : Array Edge} {g : Option (Nat × Bool)}
end
theorem unit_cut {k : IntKind} {ws vs : List Int} {m n : Nat} (h : (ws.drop m).take n = vs) (hl : m + n ≤ ws.length) : unit true n ((I k ws).drop m) (.ag (I k vs)) := by
  subst h
  refine ⟨by simp; omega, ?_⟩
  rw [if_pos rfl]
  simp [List.map_take, List.map_drop]
end Go.Sk
