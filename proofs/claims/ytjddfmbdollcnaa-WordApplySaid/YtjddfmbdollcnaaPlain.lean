/- Plain facts on words: the operators of words as one function on whole numbers, and bounds. Conditions: as each lemma says. -/
import Derived.RowKit
import Derived.Laws.BitsLemmas
namespace Go.Proofs.YtjddfmbdollcnaaPlain
open Go.RowKit Go

/-- One or zero. -/
def tr (b : Bool) : Int := if b = true then 1 else 0

/-- The shift's count. -/
def cnt (y : Int) : Nat := ((y % 4294967296) % 32).toNat

/-- A binary operator of words, by its number: the value and the error's number. -/
def ap (k x y : Int) : Int × Int :=
  if k = 6 then (wrap32 (x + y), 0) else
  if k = 7 then (wrap32 (x - y), 0) else
  if k = 8 then (wrap32 (x * y), 0) else
  if k = 9 then (if y = 0 then (0, 9) else (wrap32 (Int.tdiv x y), 0)) else
  if k = 10 then (if y = 0 then (0, 9) else (Int.tmod x y, 0)) else
  if k = 11 then (Go.bits .and .i32 x y, 0) else
  if k = 12 then (Go.bits .or .i32 x y, 0) else
  if k = 13 then (Go.bits .xor .i32 x y, 0) else
  if k = 14 then (wrap32 (x * 2 ^ cnt y), 0) else
  if k = 15 then (x / 2 ^ cnt y, 0) else
  if k = 16 then (tr (x == y), 0) else
  if k = 17 then (tr (x != y), 0) else
  if k = 18 then (tr (decide (x < y)), 0) else
  if k = 19 then (tr (decide (x ≤ y)), 0) else
  if k = 20 then (tr (decide (x > y)), 0) else
  if k = 21 then (tr (decide (x ≥ y)), 0) else
  if k = 22 then (tr (x != 0 && y != 0), 0) else
  if k = 23 then (tr (x != 0 || y != 0), 0) else (0, 1)

theorem wf_i32 {n : Int} (h : (Lit.int .i32 n).wf = true) : -2147483648 ≤ n ∧ n ≤ 2147483647 := by
  simp only [Lit.wf, IntKind.min, IntKind.max, IntKind.signed, IntKind.bits, Bool.and_eq_true, decide_eq_true_eq, if_true] at h
  omega
theorem wf_u8 {n : Int} (h : (Lit.int .u8 n).wf = true) : 0 ≤ n ∧ n ≤ 255 := by
  simp [Lit.wf, IntKind.min, IntKind.max, IntKind.signed, IntKind.bits] at h
  omega

theorem wrap32_id {n : Int} (h0 : -2147483648 ≤ n) (h1 : n ≤ 2147483647) : wrap32 n = n := by unfold wrap32; omega
theorem wrap64_id {n : Int} (h0 : -9223372036854775808 ≤ n) (h1 : n ≤ 9223372036854775807) : wrap64 n = n := by unfold wrap64; omega
theorem wrap32_in (n : Int) : -2147483648 ≤ wrap32 n ∧ wrap32 n ≤ 2147483647 := by unfold wrap32; omega

theorem tmod_pos {n m : Int} (h : 0 ≤ n) : Int.tmod n m = n % m := Int.tmod_eq_emod_of_nonneg h
theorem tmod_neg {n m : Int} (h : n < 0) : Int.tmod n m = -((-n) % m) := by
  have : Int.tmod (-(-n)) m = -(Int.tmod (-n) m) := Int.neg_tmod ..
  rw [Int.neg_neg] at this
  rw [this, Int.tmod_eq_emod_of_nonneg (by omega)]

theorem mul_in (x y : Int) (hx0 : -2147483648 ≤ x) (hx1 : x ≤ 2147483647) (hy0 : -2147483648 ≤ y) (hy1 : y ≤ 2147483647) :
    -4611686018427387904 ≤ x * y ∧ x * y ≤ 4611686018427387904 := by
  have h : (x * y).natAbs = x.natAbs * y.natAbs := Int.natAbs_mul x y
  have h2 : x.natAbs * y.natAbs ≤ 2147483648 * 2147483648 := Nat.mul_le_mul (by omega) (by omega)
  omega

end Go.Proofs.YtjddfmbdollcnaaPlain
