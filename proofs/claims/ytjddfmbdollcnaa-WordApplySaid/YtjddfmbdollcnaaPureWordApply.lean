/- For every operator byte and every two words, the law WordApply answers true: word.Apply agrees with the reference. Conditions: none beyond the kinds of the arguments. -/
import Derived.Test.YtjddfmbdollcnaaPWordApplyx3
import Derived.Test.YtjddfmbdollcnaaPlain
namespace Go.Proofs.Ytjddfmbdollcnaa.Pure
open Go.RowKit Go.Proofs.Ytjddfmbdollcnaa.PWordApply Go.Proofs.YtjddfmbdollcnaaW.PrintWords Go.Proofs.YtjddfmbdollcnaaW.PrintLast
open Go.Proofs.YtjddfmbdollcnaaPlain

theorem truth_eq (b : Bool) : word_truth.f b = some (tr b) := by
  unfold word_truth.f tr; split <;> rfl

theorem compare_eq (k x y : Int) (hk : k < 6 ∨ 15 < k) :
    (word_compare.f k x y).bind (fun bt => if bt.2 = true then some (bt.1, (0 : Int)) else some (0, 1)) = some (ap k x y) := by
  unfold word_compare.f ap
  simp only [truth_eq, Option.bind_some]
  rw [if_neg (show ¬ k = 6 by omega), if_neg (show ¬ k = 7 by omega), if_neg (show ¬ k = 8 by omega), if_neg (show ¬ k = 9 by omega), if_neg (show ¬ k = 10 by omega), if_neg (show ¬ k = 11 by omega), if_neg (show ¬ k = 12 by omega), if_neg (show ¬ k = 13 by omega), if_neg (show ¬ k = 14 by omega), if_neg (show ¬ k = 15 by omega)]
  by_cases h16 : k = 16
  · simp [h16]
  by_cases h17 : k = 17
  · simp [h17]
  by_cases h18 : k = 18
  · simp [h18]
  by_cases h19 : k = 19
  · simp [h19]
  by_cases h20 : k = 20
  · simp [h20]
  by_cases h21 : k = 21
  · simp [h21]
  by_cases h22 : k = 22
  · by_cases hx : x = 0
    · simp [h22, hx]
    · have hb : (x != 0) = true := by simpa using hx
      simp [h22, hx, hb]
  by_cases h23 : k = 23
  · by_cases hx : x = 0
    · simp [h23, hx]
    · have hb : (x != 0) = true := by simpa using hx
      simp [h23, hx, hb]
  simp [*]

theorem apply_eq (n : Nat) (k x y : Int) : word_Apply.f (n + 1) k x y = some (ap k x y) := by
  unfold word_Apply.f
  simp only [word_Apply.j0]
  by_cases h6 : k = 6
  · simp [h6, ap]
  by_cases h7 : k = 7
  · simp [h7, ap]
  by_cases h8 : k = 8
  · simp [h8, ap]
  by_cases h9 : k = 9
  · by_cases hy : y = 0 <;> simp [h9, hy, ap]
  by_cases h10 : k = 10
  · by_cases hy : y = 0 <;> simp [h10, hy, ap]
  by_cases h11 : k = 11
  · simp [h11, ap]
  by_cases h12 : k = 12
  · simp [h12, ap]
  by_cases h13 : k = 13
  · simp [h13, ap]
  by_cases h14 : k = 14
  · simp [h14, ap, cnt]
  by_cases h15 : k = 15
  · simp [h15, ap, cnt]
  have := compare_eq k x y (by omega)
  simp only [if_neg h6, if_neg h7, if_neg h8, if_neg h9, if_neg h10, if_neg h11, if_neg h12, if_neg h13, if_neg h14, if_neg h15, beq_iff_eq]
  exact this

theorem awake_eq (n : Nat) : ontimelaw03_awake.f (n + 1) = some true := by
  unfold ontimelaw03_awake.f
  simp only [apply_eq, Option.bind_some]
  decide +kernel


theorem refTruth_eq (b : Bool) : ontimeref03_truth.f b = some (tr b) := by
  unfold ontimeref03_truth.f tr; split <;> rfl

theorem wrap_eq (n : Int) (h0 : -9223372036854775808 ≤ n) (h1 : n ≤ 9223372036854775807) : ontimeref03_Wrap.f n = some (wrap32 n) := by
  unfold ontimeref03_Wrap.f
  by_cases hn : 0 ≤ n
  · rw [tmod_pos hn]
    split
    · rw [wrap64_id (by omega) (by omega), if_neg (by omega)]
      unfold wrap32; congr 1; omega
    · rw [if_neg (by omega)]
      unfold wrap32; congr 1; omega
  · rw [tmod_neg (by omega)]
    rw [if_neg (by omega)]
    split
    · rw [wrap64_id (by omega) (by omega)]
      unfold wrap32; congr 1; omega
    · unfold wrap32; congr 1; omega

theorem tdiv2 (n : Int) (h : 0 ≤ n) : Int.tdiv n 2 = n / 2 := Int.tdiv_eq_ediv_of_nonneg h

theorem bit_loop (i : Nat) : ∀ (k : Nat) (n : Int), 0 ≤ n → n ≤ 4294967295 → i < 64 → i < k →
    ontimeref03_bit.l0 k i n = some (n / 2 ^ i % 2) := by
  induction i with
  | zero =>
    intro k n h0 h1 _ hk
    obtain ⟨k, rfl⟩ : ∃ m, k = m + 1 := ⟨k - 1, by omega⟩
    simp only [ontimeref03_bit.l0]
    rw [if_neg (by omega), tmod_pos h0]
    simp
  | succ i ih =>
    intro k n h0 h1 hi hk
    obtain ⟨k, rfl⟩ : ∃ m, k = m + 1 := ⟨k - 1, by omega⟩
    simp only [ontimeref03_bit.l0]
    rw [if_pos (by omega), tdiv2 n h0, wrap64_id (by omega) (by omega), wrap64_id (n := n / 2) (by omega) (by omega)]
    rw [show ((i + 1 : Nat) : Int) - 1 = (i : Int) by omega]
    rw [ih k (n / 2) (by omega) (by omega) (by omega) (by omega)]
    rw [Int.pow_succ, Int.mul_comm, Int.ediv_ediv_of_nonneg (by omega)]

theorem bit_eq (k : Nat) (x : Int) (i : Nat) (h0 : -2147483648 ≤ x) (h1 : x ≤ 2147483647) (hi : i < 64) (hk : i + 1 < k) :
    ontimeref03_bit.f k x i = some (x % 4294967296 / 2 ^ i % 2) := by
  obtain ⟨k, rfl⟩ : ∃ m, k = m + 1 := ⟨k - 1, by omega⟩
  unfold ontimeref03_bit.f
  simp only [ontimeref03_bit.j0]
  rw [wrap64_id (n := x) (by omega) (by omega)]
  split
  · rw [wrap64_id (by omega) (by omega), bit_loop i k _ (by omega) (by omega) hi (by omega)]
    rw [show x % 4294967296 = x + 4294967296 by omega]
  · rw [bit_loop i k _ (by omega) (by omega) hi (by omega)]
    rw [show x % 4294967296 = x by omega]

theorem count_eq (y : Int) (h0 : -2147483648 ≤ y) (h1 : y ≤ 2147483647) : ontimeref03_count.f y = some ((cnt y : Nat) : Int) := by
  unfold ontimeref03_count.f cnt
  rw [wrap64_id (n := y) (by omega) (by omega)]
  by_cases hy : 0 ≤ y
  · rw [tmod_pos hy, if_neg (by omega)]
    congr 1; omega
  · rw [tmod_neg (by omega)]
    split
    · rw [wrap64_id (by omega) (by omega)]; congr 1; omega
    · congr 1; omega

theorem and_loop (x y : Int) (hx0 : -2147483648 ≤ x) (hx1 : x ≤ 2147483647) (hy0 : -2147483648 ≤ y) (hy1 : y ≤ 2147483647) (d : Nat) : ∀ (k i : Nat), i ≤ 32 → 32 - i = d → d + 40 < k →
    ontimeref03_bits.l0 k 11 x y (((x % 4294967296).toNat &&& (y % 4294967296).toNat) % 2 ^ i : Nat) (2 ^ i : Nat) i = some (wrap32 ((x % 4294967296).toNat &&& (y % 4294967296).toNat : Nat)) := by
  have hX : (x % 4294967296).toNat < 2 ^ 32 := by omega
  have hY : (y % 4294967296).toNat < 2 ^ 32 := by omega
  have hZ : (x % 4294967296).toNat &&& (y % 4294967296).toNat < 2 ^ 32 := Nat.and_lt_two_pow _ hY 
  generalize hz : (x % 4294967296).toNat &&& (y % 4294967296).toNat = Z at hZ
  induction d with
  | zero =>
    intro k i hi hd hk
    obtain ⟨k, rfl⟩ : ∃ m, k = m + 1 := ⟨k - 1, by omega⟩
    obtain rfl : i = 32 := by omega
    simp only [ontimeref03_bits.l0]
    rw [if_neg (by omega), Nat.mod_eq_of_lt hZ, wrap_eq _ (by omega) (by omega)]
    rfl
  | succ d ih =>
    intro k i hi hd hk
    obtain ⟨k, rfl⟩ : ∃ m, k = m + 1 := ⟨k - 1, by omega⟩
    have hb := testBit_and (x % 4294967296).toNat (y % 4294967296).toNat i
    rw [hz] at hb
    have hx := bit_at x i
    have hy := bit_at y i
    have ex := Nat.mod_lt ((x % 4294967296).toNat / 2 ^ i) (show 2 > 0 by decide)
    have ey := Nat.mod_lt ((y % 4294967296).toNat / 2 ^ i) (show 2 > 0 by decide)
    have hm : Z % 2 ^ (i + 1) = Z % 2 ^ i + 2 ^ i * (Z / 2 ^ i % 2) := Nat.mod_pow_succ
    have hp : 2 ^ i ≤ 2 ^ 31 := Nat.pow_le_pow_right (by decide) (by omega)
    have hs : 2 ^ (i + 1) = 2 * 2 ^ i := by rw [Nat.pow_succ, Nat.mul_comm]
    have hl : Z % 2 ^ i < 2 ^ i := Nat.mod_lt _ (Nat.two_pow_pos i)
    have hr := ih k (i + 1) (by omega) (by omega) (by omega)
    simp only [ontimeref03_bits.l0]
    rw [if_pos (by omega), bit_eq k x i hx0 hx1 (by omega) (by omega), bit_eq k y i hy0 hy1 (by omega) (by omega)]
    simp only [Option.bind_some]
    rw [hx, hy]
    generalize (x % 4294967296).toNat / 2 ^ i % 2 = bx at *
    generalize (y % 4294967296).toNat / 2 ^ i % 2 = bz at *
    generalize Z / 2 ^ i % 2 = bo at *
    generalize 2 ^ i = p at *
    generalize 2 ^ (i + 1) = p1 at *
    generalize Z % p = zm at *
    rw [wrap64_id (n := (bx : Int) + bz) (by omega) (by omega), wrap64_id (n := 2 * (p : Int)) (by omega) (by omega), wrap64_id (n := (i : Int) + 1) (by omega) (by omega), wrap64_id (n := (zm : Int) + p) (by omega) (by omega)]
    rw [show (2 * (p : Int)) = ((p1 : Nat) : Int) by omega]
    by_cases hc : (bx : Int) + bz = 2
    · have ho : bo = 1 := by split at hb <;> omega
      rw [hm, ho] at hr
      simpa [hc] using hr
    · have ho : bo = 0 := by split at hb <;> omega
      rw [hm, ho] at hr
      simpa [hc] using hr

theorem or_loop (x y : Int) (hx0 : -2147483648 ≤ x) (hx1 : x ≤ 2147483647) (hy0 : -2147483648 ≤ y) (hy1 : y ≤ 2147483647) (d : Nat) : ∀ (k i : Nat), i ≤ 32 → 32 - i = d → d + 40 < k →
    ontimeref03_bits.l0 k 12 x y (((x % 4294967296).toNat ||| (y % 4294967296).toNat) % 2 ^ i : Nat) (2 ^ i : Nat) i = some (wrap32 ((x % 4294967296).toNat ||| (y % 4294967296).toNat : Nat)) := by
  have hX : (x % 4294967296).toNat < 2 ^ 32 := by omega
  have hY : (y % 4294967296).toNat < 2 ^ 32 := by omega
  have hZ : (x % 4294967296).toNat ||| (y % 4294967296).toNat < 2 ^ 32 := Nat.or_lt_two_pow hX hY 
  generalize hz : (x % 4294967296).toNat ||| (y % 4294967296).toNat = Z at hZ
  induction d with
  | zero =>
    intro k i hi hd hk
    obtain ⟨k, rfl⟩ : ∃ m, k = m + 1 := ⟨k - 1, by omega⟩
    obtain rfl : i = 32 := by omega
    simp only [ontimeref03_bits.l0]
    rw [if_neg (by omega), Nat.mod_eq_of_lt hZ, wrap_eq _ (by omega) (by omega)]
    rfl
  | succ d ih =>
    intro k i hi hd hk
    obtain ⟨k, rfl⟩ : ∃ m, k = m + 1 := ⟨k - 1, by omega⟩
    have hb := testBit_or (x % 4294967296).toNat (y % 4294967296).toNat i
    rw [hz] at hb
    have hx := bit_at x i
    have hy := bit_at y i
    have ex := Nat.mod_lt ((x % 4294967296).toNat / 2 ^ i) (show 2 > 0 by decide)
    have ey := Nat.mod_lt ((y % 4294967296).toNat / 2 ^ i) (show 2 > 0 by decide)
    have hm : Z % 2 ^ (i + 1) = Z % 2 ^ i + 2 ^ i * (Z / 2 ^ i % 2) := Nat.mod_pow_succ
    have hp : 2 ^ i ≤ 2 ^ 31 := Nat.pow_le_pow_right (by decide) (by omega)
    have hs : 2 ^ (i + 1) = 2 * 2 ^ i := by rw [Nat.pow_succ, Nat.mul_comm]
    have hl : Z % 2 ^ i < 2 ^ i := Nat.mod_lt _ (Nat.two_pow_pos i)
    have hr := ih k (i + 1) (by omega) (by omega) (by omega)
    simp only [ontimeref03_bits.l0]
    rw [if_pos (by omega), bit_eq k x i hx0 hx1 (by omega) (by omega), bit_eq k y i hy0 hy1 (by omega) (by omega)]
    simp only [Option.bind_some]
    rw [hx, hy]
    generalize (x % 4294967296).toNat / 2 ^ i % 2 = bx at *
    generalize (y % 4294967296).toNat / 2 ^ i % 2 = bz at *
    generalize Z / 2 ^ i % 2 = bo at *
    generalize 2 ^ i = p at *
    generalize 2 ^ (i + 1) = p1 at *
    generalize Z % p = zm at *
    rw [wrap64_id (n := (bx : Int) + bz) (by omega) (by omega), wrap64_id (n := 2 * (p : Int)) (by omega) (by omega), wrap64_id (n := (i : Int) + 1) (by omega) (by omega), wrap64_id (n := (zm : Int) + p) (by omega) (by omega)]
    rw [show (2 * (p : Int)) = ((p1 : Nat) : Int) by omega]
    by_cases hc : (bx : Int) + bz ≥ 1
    · have ho : bo = 1 := by split at hb <;> omega
      rw [hm, ho] at hr
      simpa [hc] using hr
    · have ho : bo = 0 := by split at hb <;> omega
      rw [hm, ho] at hr
      simpa [hc] using hr

theorem xor_loop (x y : Int) (hx0 : -2147483648 ≤ x) (hx1 : x ≤ 2147483647) (hy0 : -2147483648 ≤ y) (hy1 : y ≤ 2147483647) (d : Nat) : ∀ (k i : Nat), i ≤ 32 → 32 - i = d → d + 40 < k →
    ontimeref03_bits.l0 k 13 x y (((x % 4294967296).toNat ^^^ (y % 4294967296).toNat) % 2 ^ i : Nat) (2 ^ i : Nat) i = some (wrap32 ((x % 4294967296).toNat ^^^ (y % 4294967296).toNat : Nat)) := by
  have hX : (x % 4294967296).toNat < 2 ^ 32 := by omega
  have hY : (y % 4294967296).toNat < 2 ^ 32 := by omega
  have hZ : (x % 4294967296).toNat ^^^ (y % 4294967296).toNat < 2 ^ 32 := Nat.xor_lt_two_pow hX hY 
  generalize hz : (x % 4294967296).toNat ^^^ (y % 4294967296).toNat = Z at hZ
  induction d with
  | zero =>
    intro k i hi hd hk
    obtain ⟨k, rfl⟩ : ∃ m, k = m + 1 := ⟨k - 1, by omega⟩
    obtain rfl : i = 32 := by omega
    simp only [ontimeref03_bits.l0]
    rw [if_neg (by omega), Nat.mod_eq_of_lt hZ, wrap_eq _ (by omega) (by omega)]
    rfl
  | succ d ih =>
    intro k i hi hd hk
    obtain ⟨k, rfl⟩ : ∃ m, k = m + 1 := ⟨k - 1, by omega⟩
    have hb := testBit_xor (x % 4294967296).toNat (y % 4294967296).toNat i
    rw [hz] at hb
    have hx := bit_at x i
    have hy := bit_at y i
    have ex := Nat.mod_lt ((x % 4294967296).toNat / 2 ^ i) (show 2 > 0 by decide)
    have ey := Nat.mod_lt ((y % 4294967296).toNat / 2 ^ i) (show 2 > 0 by decide)
    have hm : Z % 2 ^ (i + 1) = Z % 2 ^ i + 2 ^ i * (Z / 2 ^ i % 2) := Nat.mod_pow_succ
    have hp : 2 ^ i ≤ 2 ^ 31 := Nat.pow_le_pow_right (by decide) (by omega)
    have hs : 2 ^ (i + 1) = 2 * 2 ^ i := by rw [Nat.pow_succ, Nat.mul_comm]
    have hl : Z % 2 ^ i < 2 ^ i := Nat.mod_lt _ (Nat.two_pow_pos i)
    have hr := ih k (i + 1) (by omega) (by omega) (by omega)
    simp only [ontimeref03_bits.l0]
    rw [if_pos (by omega), bit_eq k x i hx0 hx1 (by omega) (by omega), bit_eq k y i hy0 hy1 (by omega) (by omega)]
    simp only [Option.bind_some]
    rw [hx, hy]
    generalize (x % 4294967296).toNat / 2 ^ i % 2 = bx at *
    generalize (y % 4294967296).toNat / 2 ^ i % 2 = bz at *
    generalize Z / 2 ^ i % 2 = bo at *
    generalize 2 ^ i = p at *
    generalize 2 ^ (i + 1) = p1 at *
    generalize Z % p = zm at *
    rw [wrap64_id (n := (bx : Int) + bz) (by omega) (by omega), wrap64_id (n := 2 * (p : Int)) (by omega) (by omega), wrap64_id (n := (i : Int) + 1) (by omega) (by omega), wrap64_id (n := (zm : Int) + p) (by omega) (by omega)]
    rw [show (2 * (p : Int)) = ((p1 : Nat) : Int) by omega]
    by_cases hc : (bx : Int) + bz = 1
    · have ho : bo = 1 := by split at hb <;> omega
      rw [hm, ho] at hr
      simpa [hc] using hr
    · have ho : bo = 0 := by split at hb <;> omega
      rw [hm, ho] at hr
      simpa [hc] using hr

theorem bits_and (n : Nat) (x y : Int) (hx0 : -2147483648 ≤ x) (hx1 : x ≤ 2147483647) (hy0 : -2147483648 ≤ y) (hy1 : y ≤ 2147483647) :
    ontimeref03_bits.f (n + 80) 11 x y = some (Go.bits .and .i32 x y) := by
  have h := and_loop x y hx0 hx1 hy0 hy1 32 (n + 80) 0 (by omega) (by omega) (by omega)
  rw [goBits_and]
  simpa [ontimeref03_bits.f, Nat.mod_one] using h
theorem bits_or (n : Nat) (x y : Int) (hx0 : -2147483648 ≤ x) (hx1 : x ≤ 2147483647) (hy0 : -2147483648 ≤ y) (hy1 : y ≤ 2147483647) :
    ontimeref03_bits.f (n + 80) 12 x y = some (Go.bits .or .i32 x y) := by
  have h := or_loop x y hx0 hx1 hy0 hy1 32 (n + 80) 0 (by omega) (by omega) (by omega)
  rw [goBits_or]
  simpa [ontimeref03_bits.f, Nat.mod_one] using h
theorem bits_xor (n : Nat) (x y : Int) (hx0 : -2147483648 ≤ x) (hx1 : x ≤ 2147483647) (hy0 : -2147483648 ≤ y) (hy1 : y ≤ 2147483647) :
    ontimeref03_bits.f (n + 80) 13 x y = some (Go.bits .xor .i32 x y) := by
  have h := xor_loop x y hx0 hx1 hy0 hy1 32 (n + 80) 0 (by omega) (by omega) (by omega)
  rw [goBits_xor]
  simpa [ontimeref03_bits.f, Nat.mod_one] using h

theorem left_loop (d : Nat) : ∀ (k i : Nat) (x : Int) (b : Nat), b < 64 → -2147483648 ≤ x → x ≤ 2147483647 → i + d = b → d + 4 < k →
    ontimeref03_Shift.l0 k x b true i = some (wrap32 (x * 2 ^ d)) := by
  induction d with
  | zero =>
    intro k i x b hb h0 h1 hd hk
    obtain ⟨k, rfl⟩ : ∃ m, k = m + 1 := ⟨k - 1, by omega⟩
    simp only [ontimeref03_Shift.l0]
    rw [if_neg (by omega)]
    simp [wrap32_id h0 h1]
  | succ d ih =>
    intro k i x b hb h0 h1 hd hk
    obtain ⟨k, rfl⟩ : ∃ m, k = m + 1 := ⟨k - 1, by omega⟩
    simp only [ontimeref03_Shift.l0]
    rw [if_pos (by omega), if_pos trivial, wrap64_id (n := x) (by omega) (by omega), wrap64_id (n := 2 * x) (by omega) (by omega), wrap_eq _ (by omega) (by omega)]
    simp only [Option.bind_some]
    rw [wrap64_id (by omega) (by omega), show ((i : Int) + 1) = ((i + 1 : Nat) : Int) by omega]
    have hw := wrap32_in (2 * x)
    rw [ih k (i + 1) _ b hb hw.1 hw.2 (by omega) (by omega), wrap32_mul]
    rw [show 2 * x * 2 ^ d = x * 2 ^ (d + 1) by rw [Int.pow_succ, Int.mul_comm 2 x, Int.mul_assoc, Int.mul_comm 2]]

theorem right_loop (d : Nat) : ∀ (k i : Nat) (x : Int) (b : Nat), b < 64 → -2147483648 ≤ x → x ≤ 2147483647 → i + d = b → d + 4 < k →
    ontimeref03_Shift.l0 k x b false i = some (x / 2 ^ d) := by
  induction d with
  | zero =>
    intro k i x b hb h0 h1 hd hk
    obtain ⟨k, rfl⟩ : ∃ m, k = m + 1 := ⟨k - 1, by omega⟩
    simp only [ontimeref03_Shift.l0]
    rw [if_neg (by omega)]
    simp
  | succ d ih =>
    intro k i x b hb h0 h1 hd hk
    obtain ⟨k, rfl⟩ : ∃ m, k = m + 1 := ⟨k - 1, by omega⟩
    simp only [ontimeref03_Shift.l0]
    have hbit := bit_eq k x 0 h0 h1 (by omega) (by omega)
    rw [if_pos (by omega), if_neg (by decide), show (0 : Int) = ((0 : Nat) : Int) from rfl, hbit]
    simp only [Option.bind_some]
    rw [wrap64_id (n := x) (by omega) (by omega)]
    have e : Int.tdiv (x - x % 4294967296 / 2 ^ 0 % 2) 2 = x / 2 := by
      rw [show x - x % 4294967296 / 2 ^ 0 % 2 = 2 * (x / 2) by simp; omega]
      exact Int.mul_tdiv_cancel_left _ (by decide)
    have hl : -2147483648 ≤ x - x % 4294967296 / 2 ^ 0 % 2 ∧ x - x % 4294967296 / 2 ^ 0 % 2 ≤ 2147483647 := by simp; omega
    rw [wrap64_id (n := x - _) (by omega) (by omega), e, wrap64_id (n := x / 2) (by omega) (by omega), wrap32_id (by omega) (by omega), wrap64_id (by omega) (by omega), show ((i : Int) + 1) = ((i + 1 : Nat) : Int) by omega]
    rw [ih k (i + 1) _ b hb (by omega) (by omega) (by omega) (by omega)]
    rw [Int.pow_succ, Int.mul_comm, Int.ediv_ediv_of_nonneg (by omega)]

theorem mod_ref (x y : Int) (hx0 : -2147483648 ≤ x) (hx1 : x ≤ 2147483647) (hy : y ≠ 0) :
    wrap32 (x - wrap32 (Int.tdiv x y) * y) = Int.tmod x y := by
  by_cases hm : x = -2147483648 ∧ y = -1
  · obtain ⟨rfl, rfl⟩ := hm; decide +kernel
  have h1 := tdiv_small x y hx0 hx1 hy hm
  have h2 := tdiv_in x y hx0 hx1
  have h3 := tmod_in x y hx0 hx1
  rw [wrap32_id h2.1 h1]
  have e : x - Int.tdiv x y * y = Int.tmod x y := by rw [Int.tmod_def, Int.mul_comm]
  rw [e, wrap32_id h3.1 h3.2]

theorem tail_eq (n : Nat) (k x y : Int) (hk : ¬ k = 6 ∧ ¬ k = 7 ∧ ¬ k = 8 ∧ ¬ k = 9 ∧ ¬ k = 10 ∧ ¬ k = 11 ∧ ¬ k = 12 ∧ ¬ k = 13 ∧ ¬ k = 14 ∧ ¬ k = 15) :
    ontimeref03_Apply.j2 (n + 1) k x y x y k false = some (ap k x y) := by
  obtain ⟨h6, h7, h8, h9, h10, h11, h12, h13, h14, h15⟩ := hk
  simp only [ontimeref03_Apply.j2, refTruth_eq, Option.bind_some]
  unfold ap
  rw [if_neg h6, if_neg h7, if_neg h8, if_neg h9, if_neg h10, if_neg h11, if_neg h12, if_neg h13, if_neg h14, if_neg h15]
  by_cases h16 : k = 16
  · simp [h16]
  by_cases h17 : k = 17
  · simp [h17]
  by_cases h18 : k = 18
  · simp [h18]
  by_cases h19 : k = 19
  · simp [h19]
  by_cases h20 : k = 20
  · simp [h20]
  by_cases h21 : k = 21
  · simp [h21]
  by_cases h22 : k = 22
  · by_cases hx : x = 0
    · simp [h22, hx]
    · have hb : (x != 0) = true := by simpa using hx
      simp [h22, hx, hb]
  by_cases h23 : k = 23
  · by_cases hx : x = 0
    · simp [h23, hx]
    · have hb : (x != 0) = true := by simpa using hx
      simp [h23, hx, hb]
  simp [*]

theorem ref_eq (k x y : Int) (hx0 : -2147483648 ≤ x) (hx1 : x ≤ 2147483647) (hy0 : -2147483648 ≤ y) (hy1 : y ≤ 2147483647) :
    ontimeref03_Apply.f 100 k x y = some (ap k x y) := by
  unfold ontimeref03_Apply.f
  rw [wrap64_id (n := x) (by omega) (by omega), wrap64_id (n := y) (by omega) (by omega)]
  by_cases h6 : k = 6
  · rw [if_pos h6, wrap64_id (by omega) (by omega), wrap_eq _ (by omega) (by omega)]
    simp [ap, h6]
  by_cases h7 : k = 7
  · rw [if_neg h6, if_pos h7, wrap64_id (by omega) (by omega), wrap_eq _ (by omega) (by omega)]
    simp [ap, h7]
  by_cases h8 : k = 8
  · have hm := mul_in x y hx0 hx1 hy0 hy1
    rw [if_neg h6, if_neg h7, if_pos h8, wrap64_id (by omega) (by omega), wrap_eq _ (by omega) (by omega)]
    simp [ap, h8]
  rw [if_neg h6, if_neg h7, if_neg h8]
  simp only [ontimeref03_Apply.j0, ontimeref03_Apply.j1]
  have hd := tdiv_in x y hx0 hx1
  have hq := wrap32_in (Int.tdiv x y)
  by_cases h9 : k = 9
  · subst h9
    by_cases hy : y = 0
    · simp [ap, hy]
    · rw [wrap64_id (n := Int.tdiv x y) (by omega) (by omega), wrap_eq _ (by omega) (by omega)]
      simp [ap, hy]
  by_cases h10 : k = 10
  · subst h10
    by_cases hy : y = 0
    · simp [ap, hy]
    · have hm := mul_in (wrap32 (Int.tdiv x y)) y hq.1 hq.2 hy0 hy1
      rw [wrap64_id (n := Int.tdiv x y) (by omega) (by omega), wrap_eq _ (by omega) (by omega)]
      simp only [Option.bind_some]
      rw [wrap64_id (n := wrap32 (Int.tdiv x y)) (by omega) (by omega), wrap64_id (n := wrap32 (Int.tdiv x y) * y) (by omega) (by omega), wrap64_id (n := x - _) (by omega) (by omega), wrap_eq _ (by omega) (by omega)]
      simp [ap, hy, mod_ref x y hx0 hx1 hy]
  by_cases h11 : k = 11
  · subst h11
    rw [show (98 : Nat) = 18 + 80 from rfl, bits_and 18 x y hx0 hx1 hy0 hy1]
    simp [ap]
  by_cases h12 : k = 12
  · subst h12
    rw [show (98 : Nat) = 18 + 80 from rfl, bits_or 18 x y hx0 hx1 hy0 hy1]
    simp [ap]
  by_cases h13 : k = 13
  · subst h13
    rw [show (98 : Nat) = 18 + 80 from rfl, bits_xor 18 x y hx0 hx1 hy0 hy1]
    simp [ap]
  by_cases h14 : k = 14
  · subst h14
    have hl := left_loop (cnt y) 97 0 x (cnt y) (by have := cnt_lt y; omega) hx0 hx1 (by omega) (by have := cnt_lt y; omega)
    simp only [ontimeref03_Apply.j2, count_eq y hy0 hy1, ontimeref03_Shift.f]
    simp [ap] at hl ⊢
    simp [hl]
  by_cases h15 : k = 15
  · subst h15
    have hl := right_loop (cnt y) 97 0 x (cnt y) (by have := cnt_lt y; omega) hx0 hx1 (by omega) (by have := cnt_lt y; omega)
    simp only [ontimeref03_Apply.j2, count_eq y hy0 hy1, ontimeref03_Shift.f]
    simp [ap] at hl ⊢
    simp [hl]
  have ht := tail_eq 97 k x y ⟨h6, h7, h8, h9, h10, h11, h12, h13, h14, h15⟩
  have h15' : (k == 15) = false := beq_eq_false_iff_ne.mpr h15
  simp only [Nat.reduceAdd] at ht
  simp [h9, h10, h11, h12, h13, h14, h15', ht]

theorem WordApply : ontimelaw03_WordApply.Pure := by
  intro k x y _ hx hy
  obtain ⟨hx0, hx1⟩ := wf_i32 hx
  obtain ⟨hy0, hy1⟩ := wf_i32 hy
  refine ⟨100, ?_⟩
  unfold ontimelaw03_WordApply.f
  rw [apply_eq 99, ref_eq k x y hx0 hx1 hy0 hy1, awake_eq 99]
  simp

end Go.Proofs.Ytjddfmbdollcnaa.Pure
