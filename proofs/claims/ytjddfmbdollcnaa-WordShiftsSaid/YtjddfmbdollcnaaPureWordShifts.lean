/- For every two words and every number of turns, the law WordShifts answers true. Conditions: none beyond the kinds of the arguments. -/
import Derived.Test.YtjddfmbdollcnaaPWordShiftsx2
import Derived.Test.YtjddfmbdollcnaaPlain
namespace Go.Proofs.Ytjddfmbdollcnaa.Pure
open Go.RowKit Go.Proofs.Ytjddfmbdollcnaa.PWordShifts Go.Proofs.YtjddfmbdollcnaaW.PrintWords Go.Proofs.YtjddfmbdollcnaaW.PrintLast
open Go.Proofs.YtjddfmbdollcnaaPlain

theorem truth_eq (b : Bool) : word_truth.f b = some (tr b) := by
  unfold word_truth.f tr; split <;> rfl

theorem compare_eq (k x y : Int) (hk : k < 6 ∨ 15 < k) :
    (word_compare.f k x y).bind (fun bt => if bt.2 = true then some (bt.1, (0 : Int)) else some (0, 1)) = some (ap k x y) := by
  unfold word_compare.f ap
  simp only [truth_eq, Option.bind_some]
  rw [if_neg (show ¬ k = 6 by omega), if_neg (show ¬ k = 7 by omega), if_neg (show ¬ k = 8 by omega), if_neg (show ¬ k = 9 by omega), if_neg (show ¬ k = 10 by omega), if_neg (show ¬ k = 11 by omega), if_neg (show ¬ k = 12 by omega), if_neg (show ¬ k = 13 by omega), if_neg (show ¬ k = 14 by omega), if_neg (show ¬ k = 15 by omega)]
  by_cases h16 : k = 16
  · simp [h16]
  by_cases h17 : k = 17
  · simp [h17]
  by_cases h18 : k = 18
  · simp [h18]
  by_cases h19 : k = 19
  · simp [h19]
  by_cases h20 : k = 20
  · simp [h20]
  by_cases h21 : k = 21
  · simp [h21]
  by_cases h22 : k = 22
  · by_cases hx : x = 0
    · simp [h22, hx]
    · have hb : (x != 0) = true := by simpa using hx
      simp [h22, hx, hb]
  by_cases h23 : k = 23
  · by_cases hx : x = 0
    · simp [h23, hx]
    · have hb : (x != 0) = true := by simpa using hx
      simp [h23, hx, hb]
  simp [*]

theorem apply_eq (n : Nat) (k x y : Int) : word_Apply.f (n + 1) k x y = some (ap k x y) := by
  unfold word_Apply.f
  simp only [word_Apply.j0]
  by_cases h6 : k = 6
  · simp [h6, ap]
  by_cases h7 : k = 7
  · simp [h7, ap]
  by_cases h8 : k = 8
  · simp [h8, ap]
  by_cases h9 : k = 9
  · by_cases hy : y = 0 <;> simp [h9, hy, ap]
  by_cases h10 : k = 10
  · by_cases hy : y = 0 <;> simp [h10, hy, ap]
  by_cases h11 : k = 11
  · simp [h11, ap]
  by_cases h12 : k = 12
  · simp [h12, ap]
  by_cases h13 : k = 13
  · simp [h13, ap]
  by_cases h14 : k = 14
  · simp [h14, ap, cnt]
  by_cases h15 : k = 15
  · simp [h15, ap, cnt]
  have := compare_eq k x y (by omega)
  simp only [if_neg h6, if_neg h7, if_neg h8, if_neg h9, if_neg h10, if_neg h11, if_neg h12, if_neg h13, if_neg h14, if_neg h15, beq_iff_eq]
  exact this

theorem awake_eq (n : Nat) : ontimelaw03_awake.f (n + 1) = some true := by
  unfold ontimelaw03_awake.f
  simp only [apply_eq, Option.bind_some]
  decide +kernel


theorem op_eq (n : Nat) (k x y : Int) : ontimelaw03_op.f (n + 1) k x y = some (ap k x y).1 := by
  unfold ontimelaw03_op.f
  rw [apply_eq]; rfl

theorem count_and (y : Int) (h0 : -2147483648 ≤ y) (h1 : y ≤ 2147483647) : Go.bits .and .i64 (wrap64 y) 31 = (cnt y : Nat) := by
  rw [wrap64_id (by omega) (by omega)]
  have h : Go.bits .and .i64 y 31 = IntKind.i64.wrap (BitVec.ofInt 64 y &&& BitVec.ofInt 64 31).toNat := rfl
  have h2 : (BitVec.ofInt 64 y).toNat = (y % 18446744073709551616).toNat := by rw [BitVec.toNat_ofInt]; rfl
  have h3 : (BitVec.ofInt 64 31).toNat = 2 ^ 5 - 1 := by decide
  rw [h, IntKind.wrap_i64, BitVec.toNat_and, h2, h3, Nat.and_two_pow_sub_one_eq_mod]
  unfold cnt
  omega

theorem power (c : Nat) (hc : c < 32) : shl .i64 1 (c : Int) = ((2 ^ c : Nat) : Int) := by
  have hp : 2 ^ c ≤ 2 ^ 31 := Nat.pow_le_pow_right (by decide) (by omega)
  unfold shl
  rw [IntKind.wrap_i64, show min ((c : Nat) : Int).toNat IntKind.i64.bits = c by simp [IntKind.bits]; omega]
  rw [show ((1 : Int) * 2 ^ c) = ((2 ^ c : Nat) : Int) by simp]
  generalize 2 ^ c = p at *
  omega

theorem same (y t : Int) : cnt (wrap32 (y + wrap32 (32 * t))) = cnt y := by
  unfold cnt wrap32
  omega

theorem WordShifts : ontimelaw03_WordShifts.Pure := by
  intro x y t hx hy ht
  obtain ⟨hx0, hx1⟩ := wf_i32 hx
  obtain ⟨hy0, hy1⟩ := wf_i32 hy
  refine ⟨3, ?_⟩
  unfold ontimelaw03_WordShifts.f
  have hc := cnt_lt y
  rw [count_and y hy0 hy1, power _ hc]
  simp only [op_eq, awake_eq, ontimelaw03_WordShifts.j0, Option.bind_some, ap6, ap8, ap14, ap15, same]
  have hp : 2 ^ cnt y ≤ 2 ^ 31 := Nat.pow_le_pow_right (by decide) (by omega)
  have hq : 0 < 2 ^ cnt y := Nat.two_pow_pos _
  have e : (2 : Int) ^ cnt y = ((2 ^ cnt y : Nat) : Int) := by simp
  rw [e]
  have hs : cnt y < 31 → 2 ^ cnt y ≤ 2 ^ 30 := fun h => Nat.pow_le_pow_right (by decide) (by omega)
  generalize 2 ^ cnt y = p at *
  have d1 := Int.ediv_mul_le x (b := (p : Int)) (by omega)
  have d2 := Int.lt_ediv_add_one_mul_self x (b := (p : Int)) (by omega)
  have d3 : (x / (p : Int) + 1) * (p : Int) = x / (p : Int) * (p : Int) + p := by rw [Int.add_mul, Int.one_mul]
  have d4 : -2147483648 ≤ x / (p : Int) ∧ x / (p : Int) ≤ 2147483647 := by
    constructor
    · exact Int.le_ediv_of_mul_le (by omega) (by omega)
    · exact Int.le_of_lt_add_one (Int.ediv_lt_of_lt_mul (by omega) (by omega))
  rw [d3] at d2
  rw [if_pos (by omega), if_pos trivial]
  rw [wrap64_id (n := x / (p : Int)) (by omega) (by omega), wrap64_id (n := x) (by omega) (by omega), wrap64_id (n := x / (p : Int) * (p : Int)) (by omega) (by omega), wrap64_id (n := x / (p : Int) + 1) (by omega) (by omega), d3, wrap64_id (n := x / (p : Int) * (p : Int) + p) (by omega) (by omega)]
  have d5 : x / (p : Int) * (p : Int) + p > x := by omega
  by_cases h31 : cnt y < 31
  · have hs' := hs h31
    rw [wrap32_id (n := (p : Int)) (by omega) (by omega)]
    simp [d1, d5]
  · have hn : ¬ ((cnt y : Nat) : Int) < 31 := by omega
    simp [hn, d1, d5]

end Go.Proofs.Ytjddfmbdollcnaa.Pure
