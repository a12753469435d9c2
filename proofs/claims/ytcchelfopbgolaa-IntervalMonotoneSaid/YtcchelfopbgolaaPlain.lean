/- Plain facts on words and intervals: the operators as functions on whole numbers, and bounds. Conditions: as each lemma says. -/
import Derived.RowKit
import Derived.Laws.BitsLemmas
namespace Go.Proofs.YtcchelfopbgolaaPlain
open Go.RowKit Go

/-- One or zero. -/
def tr (b : Bool) : Int := if b = true then 1 else 0

/-- The shift's count. -/
def cnt (y : Int) : Nat := ((y % 4294967296) % 32).toNat

/-- A binary operator of words, by its number: the value and the error's number. -/
def ap (k x y : Int) : Int × Int :=
  if k = 6 then (wrap32 (x + y), 0) else
  if k = 7 then (wrap32 (x - y), 0) else
  if k = 8 then (wrap32 (x * y), 0) else
  if k = 9 then (if y = 0 then (0, 9) else (wrap32 (Int.tdiv x y), 0)) else
  if k = 10 then (if y = 0 then (0, 9) else (Int.tmod x y, 0)) else
  if k = 11 then (Go.bits .and .i32 x y, 0) else
  if k = 12 then (Go.bits .or .i32 x y, 0) else
  if k = 13 then (Go.bits .xor .i32 x y, 0) else
  if k = 14 then (wrap32 (x * 2 ^ cnt y), 0) else
  if k = 15 then (x / 2 ^ cnt y, 0) else
  if k = 16 then (tr (x == y), 0) else
  if k = 17 then (tr (x != y), 0) else
  if k = 18 then (tr (decide (x < y)), 0) else
  if k = 19 then (tr (decide (x ≤ y)), 0) else
  if k = 20 then (tr (decide (x > y)), 0) else
  if k = 21 then (tr (decide (x ≥ y)), 0) else
  if k = 22 then (tr (x != 0 && y != 0), 0) else
  if k = 23 then (tr (x != 0 || y != 0), 0) else (0, 1)

theorem wf_i32 {n : Int} (h : (Lit.int .i32 n).wf = true) : -2147483648 ≤ n ∧ n ≤ 2147483647 := by
  simp only [Lit.wf, IntKind.min, IntKind.max, IntKind.signed, IntKind.bits, Bool.and_eq_true, decide_eq_true_eq, if_true] at h
  omega
theorem wf_u8 {n : Int} (h : (Lit.int .u8 n).wf = true) : 0 ≤ n ∧ n ≤ 255 := by
  simp [Lit.wf, IntKind.min, IntKind.max, IntKind.signed, IntKind.bits] at h
  omega

theorem wrap32_id {n : Int} (h0 : -2147483648 ≤ n) (h1 : n ≤ 2147483647) : wrap32 n = n := by unfold wrap32; omega
theorem wrap64_id {n : Int} (h0 : -9223372036854775808 ≤ n) (h1 : n ≤ 9223372036854775807) : wrap64 n = n := by unfold wrap64; omega
theorem wrap32_in (n : Int) : -2147483648 ≤ wrap32 n ∧ wrap32 n ≤ 2147483647 := by unfold wrap32; omega

theorem tmod_pos {n m : Int} (h : 0 ≤ n) : Int.tmod n m = n % m := Int.tmod_eq_emod_of_nonneg h
theorem tmod_neg {n m : Int} (h : n < 0) : Int.tmod n m = -((-n) % m) := by
  have : Int.tmod (-(-n)) m = -(Int.tmod (-n) m) := Int.neg_tmod ..
  rw [Int.neg_neg] at this
  rw [this, Int.tmod_eq_emod_of_nonneg (by omega)]

theorem mul_in (x y : Int) (hx0 : -2147483648 ≤ x) (hx1 : x ≤ 2147483647) (hy0 : -2147483648 ≤ y) (hy1 : y ≤ 2147483647) :
    -4611686018427387904 ≤ x * y ∧ x * y ≤ 4611686018427387904 := by
  have h : (x * y).natAbs = x.natAbs * y.natAbs := Int.natAbs_mul x y
  have h2 : x.natAbs * y.natAbs ≤ 2147483648 * 2147483648 := Nat.mul_le_mul (by omega) (by omega)
  omega

theorem bit_at (x : Int) (i : Nat) : x % 4294967296 / 2 ^ i % 2 = (((x % 4294967296).toNat / 2 ^ i % 2 : Nat) : Int) := by
  have h : 0 ≤ x % 4294967296 := by omega
  obtain ⟨n, hn⟩ := Int.eq_ofNat_of_zero_le h
  rw [hn, Int.toNat_natCast]
  simp

theorem testBit_and (a b i : Nat) : (a &&& b) / 2 ^ i % 2 = if a / 2 ^ i % 2 = 1 ∧ b / 2 ^ i % 2 = 1 then 1 else 0 := by
  have h := Nat.testBit_and a b i
  simp only [Nat.testBit_eq_decide_div_mod_eq] at h
  have e := Nat.mod_lt ((a &&& b) / 2 ^ i) (show 2 > 0 by decide)
  by_cases h1 : a / 2 ^ i % 2 = 1 <;> by_cases h2 : b / 2 ^ i % 2 = 1 <;> simp [h1, h2] at h ⊢ <;> omega
theorem testBit_or (a b i : Nat) : (a ||| b) / 2 ^ i % 2 = if a / 2 ^ i % 2 = 1 ∨ b / 2 ^ i % 2 = 1 then 1 else 0 := by
  have h := Nat.testBit_or a b i
  simp only [Nat.testBit_eq_decide_div_mod_eq] at h
  have e := Nat.mod_lt ((a ||| b) / 2 ^ i) (show 2 > 0 by decide)
  by_cases h1 : a / 2 ^ i % 2 = 1 <;> by_cases h2 : b / 2 ^ i % 2 = 1 <;> simp [h1, h2] at h ⊢ <;> omega
theorem testBit_xor (a b i : Nat) : (a ^^^ b) / 2 ^ i % 2 = if (a / 2 ^ i % 2 = 1 ↔ b / 2 ^ i % 2 = 1) then 0 else 1 := by
  have h := Nat.testBit_xor a b i
  simp only [Nat.testBit_eq_decide_div_mod_eq] at h
  have e := Nat.mod_lt ((a ^^^ b) / 2 ^ i) (show 2 > 0 by decide)
  by_cases h1 : a / 2 ^ i % 2 = 1 <;> by_cases h2 : b / 2 ^ i % 2 = 1 <;> simp [h1, h2] at h ⊢ <;> omega

theorem ofInt_toNat (x : Int) : (BitVec.ofInt 32 x).toNat = (x % 4294967296).toNat := by
  rw [BitVec.toNat_ofInt]; rfl

theorem goBits_and (x y : Int) : Go.bits .and .i32 x y = wrap32 ((x % 4294967296).toNat &&& (y % 4294967296).toNat : Nat) := by
  have h : Go.bits .and .i32 x y = IntKind.i32.wrap (BitVec.ofInt 32 x &&& BitVec.ofInt 32 y).toNat := rfl
  rw [h, IntKind.wrap_i32, BitVec.toNat_and, ofInt_toNat, ofInt_toNat]
  unfold wrap32
  with_reducible rfl
theorem goBits_or (x y : Int) : Go.bits .or .i32 x y = wrap32 ((x % 4294967296).toNat ||| (y % 4294967296).toNat : Nat) := by
  have h : Go.bits .or .i32 x y = IntKind.i32.wrap (BitVec.ofInt 32 x ||| BitVec.ofInt 32 y).toNat := rfl
  rw [h, IntKind.wrap_i32, BitVec.toNat_or, ofInt_toNat, ofInt_toNat]
  unfold wrap32
  with_reducible rfl
theorem goBits_xor (x y : Int) : Go.bits .xor .i32 x y = wrap32 ((x % 4294967296).toNat ^^^ (y % 4294967296).toNat : Nat) := by
  have h : Go.bits .xor .i32 x y = IntKind.i32.wrap (BitVec.ofInt 32 x ^^^ BitVec.ofInt 32 y).toNat := rfl
  rw [h, IntKind.wrap_i32, BitVec.toNat_xor, ofInt_toNat, ofInt_toNat]
  unfold wrap32
  with_reducible rfl

theorem wrap32_congr {a b : Int} (h : a % 4294967296 = b % 4294967296) : wrap32 a = wrap32 b := by unfold wrap32; omega
theorem wrap32_mod (a : Int) : wrap32 a % 4294967296 = a % 4294967296 := by unfold wrap32; omega
theorem wrap32_mul (a c : Int) : wrap32 (wrap32 a * c) = wrap32 (a * c) := by
  apply wrap32_congr
  rw [Int.mul_emod, wrap32_mod, ← Int.mul_emod]

theorem cnt_lt (y : Int) : cnt y < 32 := by unfold cnt; omega

theorem tdiv_in (x y : Int) (hx0 : -2147483648 ≤ x) (hx1 : x ≤ 2147483647) : -2147483648 ≤ Int.tdiv x y ∧ Int.tdiv x y ≤ 2147483648 := by
  have h : (Int.tdiv x y).natAbs = x.natAbs / y.natAbs := Int.natAbs_tdiv x y
  have h2 := Nat.div_le_self x.natAbs y.natAbs
  omega

theorem tdiv_small (x y : Int) (hx0 : -2147483648 ≤ x) (hx1 : x ≤ 2147483647) (hy : y ≠ 0) (hm : ¬ (x = -2147483648 ∧ y = -1)) : Int.tdiv x y ≤ 2147483647 := by
  by_cases h1 : y = 1
  · subst h1; rw [Int.tdiv_one]; omega
  by_cases h2 : y = -1
  · subst h2
    have e : Int.tdiv x (-1) = -x := by rw [Int.tdiv_neg, Int.tdiv_one]
    omega
  have h : (Int.tdiv x y).natAbs = x.natAbs / y.natAbs := Int.natAbs_tdiv x y
  have h3 : x.natAbs / y.natAbs ≤ x.natAbs / 2 := Nat.div_le_div_left (by omega) (by decide)
  omega

theorem tmod_in (x y : Int) (hx0 : -2147483648 ≤ x) (hx1 : x ≤ 2147483647) : -2147483648 ≤ Int.tmod x y ∧ Int.tmod x y ≤ 2147483647 := by
  have h2 := Nat.mod_le x.natAbs y.natAbs
  have h : (Int.tmod x y).natAbs = x.natAbs % y.natAbs := Int.natAbs_tmod x y
  by_cases hx : 0 ≤ x
  · rw [tmod_pos hx] at h ⊢
    by_cases hy : y = 0
    · subst hy; rw [Int.emod_zero] at h ⊢; omega
    · have := Int.emod_nonneg x hy
      omega
  · have hs := tmod_neg (m := y) (Int.not_le.mp hx)
    by_cases hy : y = 0
    · subst hy; rw [Int.emod_zero] at hs; omega
    · have := Int.emod_nonneg (-x) hy
      omega


theorem wrap32_bv (n : Int) : wrap32 n = (BitVec.ofInt 32 n).toInt := by
  rw [BitVec.toInt_ofInt]
  unfold wrap32 Int.bmod
  simp only [Nat.reducePow, Int.cast_ofNat_Int]
  split <;> omega

theorem bv_id {n : Int} (h0 : -2147483648 ≤ n) (h1 : n ≤ 2147483647) : (BitVec.ofInt 32 n).toInt = n := by
  rw [← wrap32_bv, wrap32_id h0 h1]

theorem wrap_toNat (v : BitVec 32) : wrap32 v.toNat = v.toInt := by
  rw [wrap32_bv, BitVec.ofInt_natCast, BitVec.ofNat_toNat]
  simp

theorem and_bv (x y : Int) : Go.bits .and .i32 x y = (BitVec.ofInt 32 x &&& BitVec.ofInt 32 y).toInt := by
  rw [goBits_and, ← wrap_toNat, BitVec.toNat_and, ofInt_toNat, ofInt_toNat]
theorem or_bv (x y : Int) : Go.bits .or .i32 x y = (BitVec.ofInt 32 x ||| BitVec.ofInt 32 y).toInt := by
  rw [goBits_or, ← wrap_toNat, BitVec.toNat_or, ofInt_toNat, ofInt_toNat]
theorem xor_bv (x y : Int) : Go.bits .xor .i32 x y = (BitVec.ofInt 32 x ^^^ BitVec.ofInt 32 y).toInt := by
  rw [goBits_xor, ← wrap_toNat, BitVec.toNat_xor, ofInt_toNat, ofInt_toNat]
theorem add_bv (x y : Int) : wrap32 (x + y) = (BitVec.ofInt 32 x + BitVec.ofInt 32 y).toInt := by
  rw [wrap32_bv, BitVec.ofInt_add]
theorem mul_bv (x y : Int) : wrap32 (x * y) = (BitVec.ofInt 32 x * BitVec.ofInt 32 y).toInt := by
  rw [wrap32_bv, BitVec.ofInt_mul]
theorem neg_bv (x : Int) : wrap32 (-x) = (-BitVec.ofInt 32 x).toInt := by
  rw [wrap32_bv, BitVec.ofInt_neg]
theorem sub_bv (x y : Int) : wrap32 (x - y) = (BitVec.ofInt 32 x - BitVec.ofInt 32 y).toInt := by
  rw [wrap32_bv, Int.sub_eq_add_neg, BitVec.ofInt_add, BitVec.ofInt_neg, ← BitVec.sub_eq_add_neg]

theorem tr_in (b : Bool) : 0 ≤ tr b ∧ tr b ≤ 1 := by unfold tr; split <;> omega

theorem ap6 (x y : Int) : ap 6 x y = (wrap32 (x + y), 0) := by simp [ap]
theorem ap7 (x y : Int) : ap 7 x y = (wrap32 (x - y), 0) := by simp [ap]
theorem ap8 (x y : Int) : ap 8 x y = (wrap32 (x * y), 0) := by simp [ap]
theorem ap11 (x y : Int) : ap 11 x y = (Go.bits .and .i32 x y, 0) := by simp [ap]
theorem ap12 (x y : Int) : ap 12 x y = (Go.bits .or .i32 x y, 0) := by simp [ap]
theorem ap13 (x y : Int) : ap 13 x y = (Go.bits .xor .i32 x y, 0) := by simp [ap]
theorem ap14 (x y : Int) : ap 14 x y = (wrap32 (x * 2 ^ cnt y), 0) := by simp [ap]
theorem ap15 (x y : Int) : ap 15 x y = (x / 2 ^ cnt y, 0) := by simp [ap]
theorem ap16 (x y : Int) : ap 16 x y = (tr (x == y), 0) := by simp [ap]
theorem ap17 (x y : Int) : ap 17 x y = (tr (x != y), 0) := by simp [ap]
theorem ap18 (x y : Int) : ap 18 x y = (tr (decide (x < y)), 0) := by simp [ap]
theorem ap19 (x y : Int) : ap 19 x y = (tr (decide (x ≤ y)), 0) := by simp [ap]
theorem ap20 (x y : Int) : ap 20 x y = (tr (decide (x > y)), 0) := by simp [ap]
theorem ap21 (x y : Int) : ap 21 x y = (tr (decide (x ≥ y)), 0) := by simp [ap]
theorem ap22 (x y : Int) : ap 22 x y = (tr (x != 0 && y != 0), 0) := by simp [ap]
theorem ap23 (x y : Int) : ap 23 x y = (tr (x != 0 || y != 0), 0) := by simp [ap]
theorem ap9 (x y : Int) (h : y ≠ 0) : ap 9 x y = (wrap32 (Int.tdiv x y), 0) := by simp [ap, h]
theorem ap9z (x : Int) : ap 9 x 0 = (0, 9) := by simp [ap]
theorem ap10 (x y : Int) (h : y ≠ 0) : ap 10 x y = (Int.tmod x y, 0) := by simp [ap, h]
theorem ap10z (x : Int) : ap 10 x 0 = (0, 9) := by simp [ap]


/-- The full interval, and the hull of numbers, which are words or not. -/
def lim (lo hi : Int) : Int × Int := if lo < -2147483648 ∨ hi > 2147483647 then (-2147483648, 2147483647) else (lo, hi)
/-- The hull of four numbers. -/
def h4 (p q r s : Int) : Int × Int := lim (min p (min q (min r s))) (max p (max q (max r s)))
/-- The hull of the values of a function at the corners. -/
def cor (f : Int → Int → Int) (a b c d : Int) : Int × Int := h4 (f a c) (f a d) (f b c) (f b d)
/-- The join. -/
def jn (a b c d : Int) : Int × Int := if a > b then (if c > d then (1, 0) else (c, d)) else if c > d then (a, b) else (min a c, max b d)
/-- The meet. -/
def met (a b c d : Int) : Int × Int := if a > b ∨ c > d ∨ max a c > min b d then (1, 0) else (max a c, min b d)
/-- Inclusion. -/
def wi (a b c d : Int) : Bool := decide (a > b ∨ (c ≤ d ∧ c ≤ a ∧ b ≤ d))
/-- Membership. -/
def ct (a b n : Int) : Bool := decide (a ≤ n ∧ n ≤ b)
/-- The quotients by one part of the divisor. -/
def dpart (p : Int × Int) (a b : Int) (q : Int × Int) : Int × Int :=
  if q.1 > q.2 then p else jn p.1 p.2 (cor Int.tdiv a b q.1 q.2).1 (cor Int.tdiv a b q.1 q.2).2
/-- The quotients. -/
def dv (a b c d : Int) : Int × Int :=
  if c = 0 ∧ d = 0 then (1, 0) else
  if (a ≤ -2147483648 ∧ -2147483648 ≤ b) ∧ (c ≤ -1 ∧ -1 ≤ d) then (-2147483648, 2147483647) else
  dpart (dpart (1, 0) a b (met c d (-2147483648) (-1))) a b (met c d 1 2147483647)
/-- The greatest absolute value, less one. -/
def gr (c d : Int) : Int := max (max (-c) c) (max (-d) d) - 1
/-- The remainders. -/
def rmd (a b c d : Int) : Int × Int :=
  if c = 0 ∧ d = 0 then (1, 0) else
  (if a ≥ 0 then 0 else max a (-gr c d), if b ≤ 0 then 0 else min b (gr c d))
/-- The least number of ones that is at least a number. -/
def msk (n : Int) : Int := if n ≤ 0 then 0 else 2 ^ (n.toNat.log2 + 1) - 1
def iand (a b c d : Int) : Int × Int :=
  if a ≥ 0 ∧ c ≥ 0 then (0, min b d) else if a ≥ 0 then (0, b) else if c ≥ 0 then (0, d) else (-2147483648, 2147483647)
def ior (a b c d : Int) : Int × Int :=
  if a ≥ 0 ∧ c ≥ 0 then (max a c, msk (max b d)) else if b < 0 ∧ d < 0 then (max a c, -1) else (-2147483648, 2147483647)
def ixor (a b c d : Int) : Int × Int :=
  if a ≥ 0 ∧ c ≥ 0 then (0, msk (max b d)) else (-2147483648, 2147483647)
def lft (a b c d : Int) : Int × Int := if c = d then lim (min (a * 2 ^ cnt c) (b * 2 ^ cnt c)) (max (a * 2 ^ cnt c) (b * 2 ^ cnt c)) else (-2147483648, 2147483647)
def rgt (a b c d : Int) : Int × Int :=
  if c = d then (a / 2 ^ cnt c, b / 2 ^ cnt c) else (if a ≥ 0 then 0 else a, if b < 0 then -1 else b)
/-- One, zero, or both. -/
def tru (always never : Bool) : Int × Int := if always then (1, 1) else if never then (0, 0) else (0, 1)
/-- The comparisons and the logical operators. -/
def dec (k a b c d : Int) : Int × Int :=
  if k = 16 then tru false (decide ((met a b c d).1 > (met a b c d).2)) else
  if k = 17 then tru (decide ((met a b c d).1 > (met a b c d).2)) false else
  if k = 18 then tru (decide (b < c)) (decide (a ≥ d)) else
  if k = 19 then tru (decide (b ≤ c)) (decide (a > d)) else
  if k = 20 then tru (decide (a > d)) (decide (b ≤ c)) else
  if k = 21 then tru (decide (a ≥ d)) (decide (b < c)) else
  if k = 22 then tru (!ct a b 0 && !ct c d 0) ((a == 0 && b == 0) || (c == 0 && d == 0)) else
  if k = 23 then tru (!ct a b 0 || !ct c d 0) ((a == 0 && b == 0) && (c == 0 && d == 0)) else (-2147483648, 2147483647)
/-- The result of an operator on two intervals. -/
def iap (k a b c d : Int) : Int × Int :=
  if k < 6 ∨ k > 23 then (-2147483648, 2147483647) else
  if a > b ∨ c > d then (1, 0) else
  if a = b ∧ c = d then (if (ap k a c).2 ≠ 0 then (1, 0) else ((ap k a c).1, (ap k a c).1)) else
  if k = 6 then cor (fun x y => x + y) a b c d else
  if k = 7 then cor (fun x y => x - y) a b c d else
  if k = 8 then cor (fun x y => x * y) a b c d else
  if k = 9 then dv a b c d else
  if k = 10 then rmd a b c d else
  if k = 11 then iand a b c d else
  if k = 12 then ior a b c d else
  if k = 13 then ixor a b c d else
  if k = 14 then lft a b c d else
  if k = 15 then rgt a b c d else dec k a b c d

end Go.Proofs.YtcchelfopbgolaaPlain
