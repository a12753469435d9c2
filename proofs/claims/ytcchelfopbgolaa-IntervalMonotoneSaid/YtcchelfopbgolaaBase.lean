/- Contracts of the functions of package interval, each with its answer as a plain function of YtcchelfopbgolaaPlain. Conditions: as each says. -/
import Derived.Test.YtcchelfopbgolaaPIntervalSetsx2
import Derived.Test.YtcchelfopbgolaaPIntervalSetsx3
import Derived.Test.YtcchelfopbgolaaPIntervalSetsx4
import Derived.Test.YtcchelfopbgolaaPIntervalSetsx5
import Derived.Test.YtcchelfopbgolaaPlain
namespace Go.Proofs.Ytcchelfopbgolaa.Base
open Go.RowKit Go.Proofs.Ytcchelfopbgolaa.PIntervalSets Go.Proofs.YtcchelfopbgolaaW.PrintWords Go.Proofs.YtcchelfopbgolaaW.PrintLast Go.Proofs.YtcchelfopbgolaaW.PrintMore
open Go.Proofs.YtcchelfopbgolaaPlain
set_option linter.unusedSimpArgs false
set_option linter.unusedVariables false

theorem truth_eq (b : Bool) : word_truth.f b = some (tr b) := by
  unfold word_truth.f tr; split <;> rfl

theorem compare_eq (k x y : Int) (hk : k < 6 ∨ 15 < k) :
    (word_compare.f k x y).bind (fun bt => if bt.2 = true then some (bt.1, (0 : Int)) else some (0, 1)) = some (ap k x y) := by
  unfold word_compare.f ap
  simp only [truth_eq, Option.bind_some]
  rw [if_neg (show ¬ k = 6 by omega), if_neg (show ¬ k = 7 by omega), if_neg (show ¬ k = 8 by omega), if_neg (show ¬ k = 9 by omega), if_neg (show ¬ k = 10 by omega), if_neg (show ¬ k = 11 by omega), if_neg (show ¬ k = 12 by omega), if_neg (show ¬ k = 13 by omega), if_neg (show ¬ k = 14 by omega), if_neg (show ¬ k = 15 by omega)]
  by_cases h16 : k = 16
  · simp [h16]
  by_cases h17 : k = 17
  · simp [h17]
  by_cases h18 : k = 18
  · simp [h18]
  by_cases h19 : k = 19
  · simp [h19]
  by_cases h20 : k = 20
  · simp [h20]
  by_cases h21 : k = 21
  · simp [h21]
  by_cases h22 : k = 22
  · by_cases hx : x = 0
    · simp [h22, hx]
    · have hb : (x != 0) = true := by simpa using hx
      simp [h22, hx, hb]
  by_cases h23 : k = 23
  · by_cases hx : x = 0
    · simp [h23, hx]
    · have hb : (x != 0) = true := by simpa using hx
      simp [h23, hx, hb]
  simp [*]

theorem apply_eq (n : Nat) (k x y : Int) : word_Apply.f (n + 1) k x y = some (ap k x y) := by
  unfold word_Apply.f
  simp only [word_Apply.j0]
  by_cases h6 : k = 6
  · simp [h6, ap]
  by_cases h7 : k = 7
  · simp [h7, ap]
  by_cases h8 : k = 8
  · simp [h8, ap]
  by_cases h9 : k = 9
  · by_cases hy : y = 0 <;> simp [h9, hy, ap]
  by_cases h10 : k = 10
  · by_cases hy : y = 0 <;> simp [h10, hy, ap]
  by_cases h11 : k = 11
  · simp [h11, ap]
  by_cases h12 : k = 12
  · simp [h12, ap]
  by_cases h13 : k = 13
  · simp [h13, ap]
  by_cases h14 : k = 14
  · simp [h14, ap, cnt]
  by_cases h15 : k = 15
  · simp [h15, ap, cnt]
  have := compare_eq k x y (by omega)
  simp only [if_neg h6, if_neg h7, if_neg h8, if_neg h9, if_neg h10, if_neg h11, if_neg h12, if_neg h13, if_neg h14, if_neg h15, beq_iff_eq]
  exact this

theorem mn_eq (a b : Int) : mn a b = min a b := by unfold mn; split <;> omega
theorem mx_eq (a b : Int) : mx a b = max a b := by unfold mx; split <;> omega

theorem wordApply_c (k x y r e : Int) (w : World) (h : ap k x y = (r, e)) :
    Calls Try.prog 24 #[.int .u8 k, .int .i32 x, .int .i32 y] w fun en w' => en = .returned (.tuple #[.int .i32 r, .int .i64 e]) ∧ Drawn0 w w' :=
  word_Apply.calls 1 k x y r e w (by rw [apply_eq, h])

theorem isEmpty_c (a b : Int) (w : World) :
    Calls Try.prog 17 #[.agg #[.int .i32 a, .int .i32 b]] w fun e w' => e = .returned (.bool (decide (a > b))) ∧ Below w.heap.size w w' :=
  interval_I_IsEmpty.calls a b _ w rfl
theorem empty_c (w : World) : Calls Try.prog 18 #[] w fun e w' => e = .returned (.agg #[.int .i32 1, .int .i32 0]) ∧ Below w.heap.size w w' :=
  interval_Empty.calls 1 0 w rfl
theorem full_c (w : World) : Calls Try.prog 25 #[] w fun e w' => e = .returned (.agg #[.int .i32 (-2147483648), .int .i32 2147483647]) ∧ Below w.heap.size w w' :=
  interval_Full.calls (-2147483648) 2147483647 w rfl
theorem of_c (n : Int) (w : World) : Calls Try.prog 27 #[.int .i32 n] w fun e w' => e = .returned (.agg #[.int .i32 n, .int .i32 n]) ∧ Below w.heap.size w w' :=
  interval_Of.calls n n n w rfl
theorem contains_c (a b n : Int) (w : World) :
    Calls Try.prog 15 #[.agg #[.int .i32 a, .int .i32 b], .int .i32 n] w fun e w' => e = .returned (.bool (ct a b n)) ∧ Below w.heap.size w w' :=
  interval_I_Contains.calls a b n _ w (by
    unfold interval_I_Contains.f ct
    by_cases h : n ≥ a
    · rw [if_pos h]; simp; omega
    · rw [if_neg h]; simp; omega)

theorem join_eq (a b c d : Int) : interval_Join.f 1 a b c d = some (jn a b c d) := by
  unfold interval_Join.f jn interval_I_IsEmpty.f
  simp only [interval_Join.j0, interval_I_IsEmpty.f, interval_Empty.f, Option.bind_some, mn_eq, mx_eq]
  by_cases h1 : a > b <;> by_cases h2 : c > d <;> simp [h1, h2]
theorem join_c (a b c d : Int) (w : World) :
    Calls Try.prog 11 #[.agg #[.int .i32 a, .int .i32 b], .agg #[.int .i32 c, .int .i32 d]] w fun e w' => e = .returned (.agg #[.int .i32 (jn a b c d).1, .int .i32 (jn a b c d).2]) ∧ Below w.heap.size w w' :=
  interval_Join.calls 1 a b c d _ _ w (join_eq a b c d)

theorem meet_eq (a b c d : Int) : interval_Meet.f a b c d = some (met a b c d) := by
  unfold interval_Meet.f met interval_I_IsEmpty.f
  simp only [interval_Empty.f, Option.bind_some, mn_eq, mx_eq]
  by_cases h1 : a > b
  · simp [h1]
  · by_cases h2 : c > d
    · simp [h1, h2]
    · by_cases h3 : max a c > min b d
      · simp only [h1, h2, h3, decide_false, decide_true, if_true, if_false, false_or, or_true, Bool.false_eq_true]
      · simp only [h1, h2, h3, decide_false, decide_true, if_true, if_false, false_or, or_true, Bool.false_eq_true]
theorem meet_c (a b c d : Int) (w : World) :
    Calls Try.prog 12 #[.agg #[.int .i32 a, .int .i32 b], .agg #[.int .i32 c, .int .i32 d]] w fun e w' => e = .returned (.agg #[.int .i32 (met a b c d).1, .int .i32 (met a b c d).2]) ∧ Below w.heap.size w w' :=
  interval_Meet.calls a b c d _ _ w (meet_eq a b c d)

theorem hull2_eq (p q : Int) : interval_hull.f 4 [p, q] = some (lim (min p q) (max p q)) := by
  unfold interval_hull.f
  simp [interval_hull.l0, rd, wrap64, mn_eq, mx_eq, interval_Full.f]
  unfold lim
  by_cases h1 : min p q < -2147483648
  · simp [h1]
  · by_cases h2 : max p q > 2147483647
    · simp [h1, h2]
    · rw [wrap32_id (by omega) (by omega), wrap32_id (by omega) (by omega)]
      simp [h1, h2]

theorem hull4_eq (p q r s : Int) : interval_hull.f 6 [p, q, r, s] = some (h4 p q r s) := by
  unfold interval_hull.f
  simp [interval_hull.l0, rd, wrap64, mn_eq, mx_eq, interval_Full.f]
  unfold h4 lim
  by_cases h1 : min p (min q (min r s)) < -2147483648
  · simp [h1]
  · by_cases h2 : max p (max q (max r s)) > 2147483647
    · simp [h1, h2]
    · rw [wrap32_id (by omega) (by omega), wrap32_id (by omega) (by omega)]
      simp [h1, h2]

theorem rem_eq (a b c d : Int) (ha : -2147483648 ≤ a) (ha1 : a ≤ 2147483647) (hb : -2147483648 ≤ b) (hb1 : b ≤ 2147483647) (hc : -2147483648 ≤ c) (hc1 : c ≤ 2147483647) (hd : -2147483648 ≤ d) (hd1 : d ≤ 2147483647) :
    interval_remainder.f a b c d = some (rmd a b c d) := by
  unfold interval_remainder.f rmd interval_Of.f interval_Empty.f
  simp only [Option.bind_some, mn_eq, mx_eq, Bool.and_eq_true, beq_iff_eq]
  by_cases h0 : c = 0 ∧ d = 0
  · rw [if_pos h0, if_pos h0]
  rw [if_neg h0, if_neg h0]
  have hg : max (max (max (wrap64 (-wrap64 c)) (wrap64 c)) (wrap64 (-wrap64 d))) (wrap64 d) = gr c d + 1 := by
    rw [wrap64_id (n := c) (by omega) (by omega), wrap64_id (n := d) (by omega) (by omega), wrap64_id (n := -c) (by omega) (by omega), wrap64_id (n := -d) (by omega) (by omega)]
    unfold gr; omega
  rw [hg, Int.add_sub_cancel]
  have g0 : 0 ≤ gr c d := by unfold gr; omega
  have g1 : gr c d ≤ 2147483647 := by unfold gr; omega
  generalize gr c d = g at *
  rw [wrap64_id (n := a) (by omega) (by omega), wrap64_id (n := b) (by omega) (by omega), wrap64_id (n := g) (by omega) (by omega), wrap64_id (n := -g) (by omega) (by omega), wrap32_id (n := min b g) (by omega) (by omega), wrap32_id (n := max a (-g)) (by omega) (by omega)]
  by_cases h1 : a ≥ 0 <;> by_cases h2 : b ≤ 0 <;> simp [h1, h2]
theorem rem_c (a b c d : Int) (ha : -2147483648 ≤ a) (ha1 : a ≤ 2147483647) (hb : -2147483648 ≤ b) (hb1 : b ≤ 2147483647) (hc : -2147483648 ≤ c) (hc1 : c ≤ 2147483647) (hd : -2147483648 ≤ d) (hd1 : d ≤ 2147483647) (w : World) :
    Calls Try.prog 34 #[.agg #[.int .i32 a, .int .i32 b], .agg #[.int .i32 c, .int .i32 d]] w fun e w' => e = .returned (.agg #[.int .i32 (rmd a b c d).1, .int .i32 (rmd a b c d).2]) ∧ Below w.heap.size w w' :=
  interval_remainder.calls a b c d _ _ w (rem_eq a b c d ha ha1 hb hb1 hc hc1 hd hd1)

theorem and_eq (a b c d : Int) : interval_and.f 1 a b c d = some (iand a b c d) := by
  unfold interval_and.f iand
  simp only [interval_and.j0, interval_Full.f, mn_eq, Option.bind_some]
  by_cases h1 : a ≥ 0 <;> by_cases h2 : c ≥ 0 <;> simp [h1, h2]
theorem and_c (a b c d : Int) (w : World) :
    Calls Try.prog 35 #[.agg #[.int .i32 a, .int .i32 b], .agg #[.int .i32 c, .int .i32 d]] w fun e w' => e = .returned (.agg #[.int .i32 (iand a b c d).1, .int .i32 (iand a b c d).2]) ∧ Below w.heap.size w w' :=
  interval_and.calls 1 a b c d _ _ w (and_eq a b c d)

theorem mask_loop (n : Int) (h0 : -2147483648 ≤ n) (h1 : n ≤ 2147483647) (m : Nat) : ∀ (k j : Nat), j ≤ 32 → 32 - j = m → m < k → (j = 0 ∨ (2 : Int) ^ (j - 1) - 1 < n) →
    interval_mask.l0 k n (2 ^ j - 1) = some (msk n) := by
  induction m with
  | zero =>
    intro k j hj hm hk hlt
    obtain rfl : j = 32 := by omega
    rcases hlt with h | h
    · omega
    · simp at h; omega
  | succ m ih =>
    intro k j hj hm hk hlt
    obtain ⟨k, rfl⟩ : ∃ i, k = i + 1 := ⟨k - 1, by omega⟩
    simp only [interval_mask.l0]
    rw [wrap64_id (n := n) (by omega) (by omega)]
    have hp : 2 ^ j ≤ 2 ^ 31 := Nat.pow_le_pow_right (by decide) (by omega)
    have hq : 0 < 2 ^ j := Nat.two_pow_pos j
    have e : (2 : Int) ^ j = ((2 ^ j : Nat) : Int) := by simp
    have e2 : (2 : Int) ^ (j + 1) = 2 * 2 ^ j := by rw [Int.pow_succ, Int.mul_comm]
    by_cases hc : (2 : Int) ^ j - 1 < n
    · have hs := ih k (j + 1) (by omega) (by omega) (by omega) (Or.inr (by simpa using hc))
      rw [if_pos hc]
      rw [e2, e] at hs
      rw [e]
      rw [wrap64_id (n := 2 * _) (by omega) (by omega), wrap64_id (by omega) (by omega), show 2 * (((2 ^ j : Nat) : Int) - 1) + 1 = 2 * ((2 ^ j : Nat) : Int) - 1 by omega]
      exact hs
    · rw [if_neg hc]
      rw [wrap32_id (by rw [e]; omega) (by rw [e]; omega)]
      congr 1
      unfold msk
      by_cases hn : n ≤ 0
      · rw [if_pos hn]
        rcases hlt with h | h
        · subst h; decide
        · have : (0 : Int) < 2 ^ (j - 1) := Int.pow_pos (by decide)
          omega
      · rw [if_neg hn]
        have hj0 : j ≠ 0 := by intro h; subst h; simp at hc; omega
        obtain ⟨i, rfl⟩ : ∃ i, j = i + 1 := ⟨j - 1, by omega⟩
        have hlt' : (2 : Int) ^ i - 1 < n := by
          rcases hlt with h | h
          · omega
          · simpa using h
        have e3 : (2 : Int) ^ i = ((2 ^ i : Nat) : Int) := by simp
        have hl : n.toNat.log2 = i := (Nat.log2_eq_iff (by omega)).2 ⟨by omega, by omega⟩
        rw [hl]

theorem mask_eq (n : Int) (h0 : -2147483648 ≤ n) (h1 : n ≤ 2147483647) : interval_mask.f 40 n = some (msk n) :=
  mask_loop n h0 h1 32 40 0 (by omega) (by omega) (by omega) (Or.inl rfl)

theorem or_eq (a b c d : Int) (hb : -2147483648 ≤ b) (hb1 : b ≤ 2147483647) (hd : -2147483648 ≤ d) (hd1 : d ≤ 2147483647) : interval_or.f 41 a b c d = some (ior a b c d) := by
  unfold interval_or.f ior
  simp only [interval_or.j0, interval_Full.f, mn_eq, mx_eq, Option.bind_some]
  rw [mask_eq _ (by omega) (by omega)]
  by_cases h1 : a ≥ 0 <;> by_cases h2 : c ≥ 0 <;> by_cases h3 : b < 0 <;> by_cases h4 : d < 0 <;> simp [h1, h2, h3, h4]
theorem or_c (a b c d : Int) (hb : -2147483648 ≤ b) (hb1 : b ≤ 2147483647) (hd : -2147483648 ≤ d) (hd1 : d ≤ 2147483647) (w : World) :
    Calls Try.prog 36 #[.agg #[.int .i32 a, .int .i32 b], .agg #[.int .i32 c, .int .i32 d]] w fun e w' => e = .returned (.agg #[.int .i32 (ior a b c d).1, .int .i32 (ior a b c d).2]) ∧ Below w.heap.size w w' :=
  interval_or.calls 41 a b c d _ _ w (or_eq a b c d hb hb1 hd hd1)

theorem xor_eq (a b c d : Int) (hb : -2147483648 ≤ b) (hb1 : b ≤ 2147483647) (hd : -2147483648 ≤ d) (hd1 : d ≤ 2147483647) : interval_xor.f 41 a b c d = some (ixor a b c d) := by
  unfold interval_xor.f ixor
  simp only [interval_xor.j0, interval_Full.f, mn_eq, mx_eq, Option.bind_some]
  rw [mask_eq _ (by omega) (by omega)]
  by_cases h1 : a ≥ 0 <;> by_cases h2 : c ≥ 0 <;> simp [h1, h2]
theorem xor_c (a b c d : Int) (hb : -2147483648 ≤ b) (hb1 : b ≤ 2147483647) (hd : -2147483648 ≤ d) (hd1 : d ≤ 2147483647) (w : World) :
    Calls Try.prog 37 #[.agg #[.int .i32 a, .int .i32 b], .agg #[.int .i32 c, .int .i32 d]] w fun e w' => e = .returned (.agg #[.int .i32 (ixor a b c d).1, .int .i32 (ixor a b c d).2]) ∧ Below w.heap.size w w' :=
  interval_xor.calls 41 a b c d _ _ w (xor_eq a b c d hb hb1 hd hd1)

end Go.Proofs.Ytcchelfopbgolaa.Base
