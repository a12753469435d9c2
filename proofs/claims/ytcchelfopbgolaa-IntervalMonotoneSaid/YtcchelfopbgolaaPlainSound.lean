/- Plain laws: the operators on intervals contain the values of members, and grow with their operands. Conditions: as each lemma says. -/
import Derived.Test.YtcchelfopbgolaaPlainBox
namespace Go.Proofs.YtcchelfopbgolaaPlain
open Go.RowKit Go
set_option linter.unusedVariables false
set_option linter.unusedSimpArgs false

theorem rmd_has (a b c d n m : Int) (h1 : a ≤ n) (h2 : n ≤ b) (h3 : c ≤ m) (h4 : m ≤ d) (hm : m ≠ 0) : ct (rmd a b c d).1 (rmd a b c d).2 (Int.tmod n m) = true := by
  have e := Int.natAbs_tmod n m
  have l1 := Nat.mod_lt n.natAbs (show m.natAbs > 0 by omega)
  have l2 := Nat.mod_le n.natAbs m.natAbs
  have s : (0 ≤ n → 0 ≤ Int.tmod n m) ∧ (n < 0 → Int.tmod n m ≤ 0) := by
    refine ⟨fun h => ?_, fun h => ?_⟩
    · rw [tmod_pos h]; exact Int.emod_nonneg n hm
    · rw [tmod_neg h]; have := Int.emod_nonneg (-n) hm; omega
  rw [ct_iff]; unfold rmd gr; rw [if_neg (by omega)]
  generalize Int.tmod n m = t at *
  rw [← e] at l1 l2
  clear e
  simp only
  split <;> split <;> omega
theorem rmd_in (a b c d a' b' c' d' : Int) (h1 : a' ≤ a) (h2 : b ≤ b') (h3 : c' ≤ c) (h4 : d ≤ d') (h5 : a ≤ b) (h6 : c ≤ d) : wi (rmd a b c d).1 (rmd a b c d).2 (rmd a' b' c' d').1 (rmd a' b' c' d').2 = true := by
  by_cases z : c = 0 ∧ d = 0
  · have e : rmd a b c d = (1, 0) := by unfold rmd; rw [if_pos z]
    rw [e, wi_iff]; left; decide
  have z' : ¬ (c' = 0 ∧ d' = 0) := by omega
  have e : rmd a b c d = (if a ≥ 0 then 0 else max a (-gr c d), if b ≤ 0 then 0 else min b (gr c d)) := by unfold rmd; rw [if_neg z]
  have e' : rmd a' b' c' d' = (if a' ≥ 0 then 0 else max a' (-gr c' d'), if b' ≤ 0 then 0 else min b' (gr c' d')) := by unfold rmd; rw [if_neg z']
  have g1 : gr c d ≤ gr c' d' := by unfold gr; omega
  have g0 : 0 ≤ gr c d := by unfold gr; omega
  rw [wi_iff, e, e']
  generalize gr c d = g at *
  generalize gr c' d' = g' at *
  clear e e'
  simp only
  split <;> split <;> split <;> split <;> omega

theorem nat32 {n : Int} (h0 : 0 ≤ n) (h1 : n ≤ 2147483647) : (n % 4294967296).toNat = n.toNat := by omega
theorem and_left {n : Int} (m : Int) (h0 : 0 ≤ n) (h1 : n ≤ 2147483647) : 0 ≤ Go.bits .and .i32 n m ∧ Go.bits .and .i32 n m ≤ n := by
  rw [goBits_and, nat32 h0 h1]
  have := @Nat.and_le_left n.toNat (m % 4294967296).toNat
  rw [wrap32_id (by omega) (by omega)]; omega
theorem and_right (n : Int) {m : Int} (h0 : 0 ≤ m) (h1 : m ≤ 2147483647) : 0 ≤ Go.bits .and .i32 n m ∧ Go.bits .and .i32 n m ≤ m := by
  rw [goBits_and, nat32 h0 h1]
  have := @Nat.and_le_right (n % 4294967296).toNat m.toNat
  rw [wrap32_id (by omega) (by omega)]; omega
theorem and_in (n m : Int) : -2147483648 ≤ Go.bits .and .i32 n m ∧ Go.bits .and .i32 n m ≤ 2147483647 := by rw [goBits_and]; exact wrap32_in _
theorem or_in (n m : Int) : -2147483648 ≤ Go.bits .or .i32 n m ∧ Go.bits .or .i32 n m ≤ 2147483647 := by rw [goBits_or]; exact wrap32_in _
theorem xor_in (n m : Int) : -2147483648 ≤ Go.bits .xor .i32 n m ∧ Go.bits .xor .i32 n m ≤ 2147483647 := by rw [goBits_xor]; exact wrap32_in _

theorem msk_zero {M : Int} (h : M ≤ 0) : msk M = 0 := by unfold msk; rw [if_pos h]
theorem msk_pos {M : Int} (h : ¬ M ≤ 0) : msk M = ((2 ^ (M.toNat.log2 + 1) : Nat) : Int) - 1 := by unfold msk; rw [if_neg h]; simp
theorem msk_nonneg (M : Int) : 0 ≤ msk M := by
  by_cases h : M ≤ 0
  · rw [msk_zero h]; omega
  · rw [msk_pos h]; have := Nat.two_pow_pos (M.toNat.log2 + 1); omega
theorem msk_mono {M M' : Int} (h : M ≤ M') : msk M ≤ msk M' := by
  by_cases h0 : M ≤ 0
  · rw [msk_zero h0]; exact msk_nonneg _
  · rw [msk_pos h0, msk_pos (by omega)]
    have l : M.toNat.log2 ≤ M'.toNat.log2 := by
      rcases Nat.lt_or_ge M'.toNat.log2 M.toNat.log2 with k | k
      · have := (Nat.log2_lt (n := M'.toNat) (by omega)).mp k
        have := Nat.log2_self_le (n := M.toNat) (by omega)
        omega
      · exact k
    have := Nat.pow_le_pow_right (show 2 > 0 by decide) (Nat.add_le_add_right l 1)
    omega
theorem msk_le {M : Int} (h : M ≤ 2147483647) : msk M ≤ 2147483647 := by
  by_cases h0 : M ≤ 0
  · rw [msk_zero h0]; omega
  · rw [msk_pos h0]
    have l : M.toNat.log2 < 31 := (Nat.log2_lt (by omega)).mpr (by omega)
    have := Nat.pow_le_pow_right (show 2 > 0 by decide) (show M.toNat.log2 + 1 ≤ 31 by omega)
    omega
theorem msk_top {x M : Int} (h0 : 0 ≤ x) (h1 : x ≤ M) (hM : ¬ M ≤ 0) : x.toNat < 2 ^ (M.toNat.log2 + 1) := by
  have := @Nat.lt_log2_self M.toNat
  omega
theorem or_pos {n m M : Int} (h0 : 0 ≤ n) (h1 : n ≤ M) (h2 : 0 ≤ m) (h3 : m ≤ M) (hM : M ≤ 2147483647) : n ≤ Go.bits .or .i32 n m ∧ m ≤ Go.bits .or .i32 n m ∧ Go.bits .or .i32 n m ≤ msk M := by
  rw [goBits_or, nat32 h0 (by omega), nat32 h2 (by omega)]
  have l1 := @Nat.left_le_or n.toNat m.toNat
  have l2 := @Nat.right_le_or n.toNat m.toNat
  have l3 : n.toNat ||| m.toNat < 2 ^ 31 := Nat.or_lt_two_pow (by omega) (by omega)
  rw [wrap32_id (by omega) (by omega)]
  refine ⟨by omega, by omega, ?_⟩
  by_cases hz : M ≤ 0
  · obtain rfl : n = 0 := by omega
    obtain rfl : m = 0 := by omega
    exact msk_nonneg M
  · rw [msk_pos hz]
    have := Nat.or_lt_two_pow (msk_top h0 h1 hz) (msk_top h2 h3 hz)
    omega
theorem or_neg {n m : Int} (h0 : -2147483648 ≤ n) (h1 : n < 0) (h2 : -2147483648 ≤ m) (h3 : m < 0) : n ≤ Go.bits .or .i32 n m ∧ m ≤ Go.bits .or .i32 n m ∧ Go.bits .or .i32 n m ≤ -1 := by
  rw [goBits_or]
  have l1 := @Nat.left_le_or (n % 4294967296).toNat (m % 4294967296).toNat
  have l2 := @Nat.right_le_or (n % 4294967296).toNat (m % 4294967296).toNat
  have l3 : (n % 4294967296).toNat ||| (m % 4294967296).toNat < 2 ^ 32 := Nat.or_lt_two_pow (by omega) (by omega)
  generalize (n % 4294967296).toNat ||| (m % 4294967296).toNat = v at *
  unfold wrap32
  omega
theorem xor_pos {n m M : Int} (h0 : 0 ≤ n) (h1 : n ≤ M) (h2 : 0 ≤ m) (h3 : m ≤ M) (hM : M ≤ 2147483647) : 0 ≤ Go.bits .xor .i32 n m ∧ Go.bits .xor .i32 n m ≤ msk M := by
  rw [goBits_xor, nat32 h0 (by omega), nat32 h2 (by omega)]
  have l3 : n.toNat ^^^ m.toNat < 2 ^ 31 := Nat.xor_lt_two_pow (by omega) (by omega)
  rw [wrap32_id (by omega) (by omega)]
  refine ⟨by omega, ?_⟩
  by_cases hz : M ≤ 0
  · obtain rfl : n = 0 := by omega
    obtain rfl : m = 0 := by omega
    exact msk_nonneg M
  · rw [msk_pos hz]
    have := Nat.xor_lt_two_pow (msk_top h0 h1 hz) (msk_top h2 h3 hz)
    omega

theorem iand_has (a b c d n m : Int) (h1 : a ≤ n) (h2 : n ≤ b) (h3 : c ≤ m) (h4 : m ≤ d) (hb : b ≤ 2147483647) (hd : d ≤ 2147483647) : ct (iand a b c d).1 (iand a b c d).2 (Go.bits .and .i32 n m) = true := by
  have l := and_in n m
  have l1 := fun k => and_left (n := n) m k (by omega)
  have l2 := fun k => and_right n (m := m) k (by omega)
  rw [ct_iff]; unfold iand
  split
  · have := l1 (by omega); have := l2 (by omega); simp only; omega
  split
  · have := l1 (by omega); simp only; omega
  split
  · have := l2 (by omega); simp only; omega
  · exact l
theorem ior_has (a b c d n m : Int) (h1 : a ≤ n) (h2 : n ≤ b) (h3 : c ≤ m) (h4 : m ≤ d) (ha : -2147483648 ≤ a) (hb : b ≤ 2147483647) (hc : -2147483648 ≤ c) (hd : d ≤ 2147483647) : ct (ior a b c d).1 (ior a b c d).2 (Go.bits .or .i32 n m) = true := by
  rw [ct_iff]; unfold ior
  split
  · have := or_pos (n := n) (m := m) (M := max b d) (by omega) (by omega) (by omega) (by omega) (by omega); simp only; omega
  split
  · have := or_neg (n := n) (m := m) (by omega) (by omega) (by omega) (by omega); simp only; omega
  · exact or_in n m
theorem ixor_has (a b c d n m : Int) (h1 : a ≤ n) (h2 : n ≤ b) (h3 : c ≤ m) (h4 : m ≤ d) (hb : b ≤ 2147483647) (hd : d ≤ 2147483647) : ct (ixor a b c d).1 (ixor a b c d).2 (Go.bits .xor .i32 n m) = true := by
  rw [ct_iff]; unfold ixor
  split
  · exact xor_pos (n := n) (m := m) (M := max b d) (by omega) (by omega) (by omega) (by omega) (by omega)
  · exact xor_in n m

/-- Bounds that are words. -/
def rg (p : Int × Int) : Prop := -2147483648 ≤ p.1 ∧ p.2 ≤ 2147483647
theorem rg_full {p : Int × Int} (h : rg p) : wi p.1 p.2 (-2147483648) 2147483647 = true := by rw [wi_iff]; unfold rg at h; omega
theorem rg_lim (lo hi : Int) : rg (lim lo hi) := by unfold rg lim; split <;> simp only <;> omega
theorem rg_cor (f : Int → Int → Int) (a b c d : Int) : rg (cor f a b c d) := rg_lim _ _
theorem rg_jn {p q : Int × Int} (h1 : rg p) (h2 : rg q) : rg (jn p.1 p.2 q.1 q.2) := by
  unfold rg at *
  rcases jn_def p.1 p.2 q.1 q.2 with ⟨_, _, e⟩ | ⟨_, _, e⟩ | ⟨_, _, e⟩ | ⟨_, _, e⟩ <;> rw [e] <;> simp only <;> omega
theorem rg_dpart {p : Int × Int} (h1 : rg p) (a b : Int) (q : Int × Int) : rg (dpart p a b q) := by
  unfold dpart; split
  · exact h1
  · exact rg_jn h1 (rg_cor _ _ _ _ _)
theorem rg_dv (a b c d : Int) : rg (dv a b c d) := by
  unfold dv; split
  · unfold rg; simp only; omega
  split
  · unfold rg; simp only; omega
  · exact rg_dpart (rg_dpart (by unfold rg; simp only; omega) _ _ _) _ _ _

theorem iand_in (a b c d a' b' c' d' : Int) (h1 : a' ≤ a) (h2 : b ≤ b') (h3 : c' ≤ c) (h4 : d ≤ d') (h5 : a ≤ b) (h6 : c ≤ d) (hb : b' ≤ 2147483647) (hd : d' ≤ 2147483647) : wi (iand a b c d).1 (iand a b c d).2 (iand a' b' c' d').1 (iand a' b' c' d').2 = true := by
  rw [wi_iff]
  have h0 : a ≤ b := h5
  unfold iand
  by_cases k1 : a ≥ 0 <;> by_cases k2 : c ≥ 0 <;> by_cases k3 : a' ≥ 0 <;> by_cases k4 : c' ≥ 0 <;> simp only [k1, k2, k3, k4, and_self, and_true, true_and, and_false, false_and, if_true, if_false] <;> omega
theorem ior_in (a b c d a' b' c' d' : Int) (h1 : a' ≤ a) (h2 : b ≤ b') (h3 : c' ≤ c) (h4 : d ≤ d') (h5 : a ≤ b) (h6 : c ≤ d) (ha : -2147483648 ≤ a') (hb : b' ≤ 2147483647) (hc : -2147483648 ≤ c') (hd : d' ≤ 2147483647) : wi (ior a b c d).1 (ior a b c d).2 (ior a' b' c' d').1 (ior a' b' c' d').2 = true := by
  have q1 := msk_le (M := max b d) (by omega)
  have q2 := msk_mono (M := max b d) (M' := max b' d') (by omega)
  have q3 : max b d ≤ msk (max b d) ∨ max b d < 0 := by
    by_cases h : max b d ≤ 0
    · rw [msk_zero h]; omega
    · left; rw [msk_pos h]; have := @Nat.lt_log2_self (max b d).toNat; omega
  rw [wi_iff]; unfold ior
  generalize msk (max b d) = u at *
  generalize msk (max b' d') = v at *
  by_cases k1 : a ≥ 0 ∧ c ≥ 0 <;> by_cases k2 : b < 0 ∧ d < 0 <;> by_cases k3 : a' ≥ 0 ∧ c' ≥ 0 <;> by_cases k4 : b' < 0 ∧ d' < 0 <;> (first | rw [if_pos k1] | rw [if_neg k1]) <;> (try (first | rw [if_pos k2] | rw [if_neg k2])) <;> (first | rw [if_pos k3] | rw [if_neg k3]) <;> (try (first | rw [if_pos k4] | rw [if_neg k4])) <;> simp only <;> omega
theorem ixor_in (a b c d a' b' c' d' : Int) (h1 : a' ≤ a) (h2 : b ≤ b') (h3 : c' ≤ c) (h4 : d ≤ d') (h5 : a ≤ b) (h6 : c ≤ d) (hb : b' ≤ 2147483647) (hd : d' ≤ 2147483647) : wi (ixor a b c d).1 (ixor a b c d).2 (ixor a' b' c' d').1 (ixor a' b' c' d').2 = true := by
  have q1 := msk_le (M := max b d) (by omega)
  have q2 := msk_mono (M := max b d) (M' := max b' d') (by omega)
  rw [wi_iff]; unfold ixor
  generalize msk (max b d) = u at *
  generalize msk (max b' d') = v at *
  by_cases k1 : a ≥ 0 ∧ c ≥ 0 <;> by_cases k3 : a' ≥ 0 ∧ c' ≥ 0 <;> (first | rw [if_pos k1] | rw [if_neg k1]) <;> (first | rw [if_pos k3] | rw [if_neg k3]) <;> simp only <;> omega

theorem lft_has (a b c d n m : Int) (h1 : a ≤ n) (h2 : n ≤ b) (h3 : c ≤ m) (h4 : m ≤ d) : ct (lft a b c d).1 (lft a b c d).2 (wrap32 (n * 2 ^ cnt m)) = true := by
  unfold lft
  split
  · obtain rfl : m = c := by omega
    have p : (0 : Int) ≤ 2 ^ cnt m := Int.le_of_lt (Int.pow_pos (by decide))
    have e1 := Int.mul_le_mul_of_nonneg_right h1 p
    have e2 := Int.mul_le_mul_of_nonneg_right h2 p
    exact lim_has _ _ _ ⟨by omega, by omega⟩
  · rw [ct_iff]; exact wrap32_in _
theorem rg_lft (a b c d : Int) : rg (lft a b c d) := by
  unfold lft; split
  · exact rg_lim _ _
  · unfold rg; simp only; omega
theorem lft_in (a b c d a' b' c' d' : Int) (h1 : a' ≤ a) (h2 : b ≤ b') (h3 : c' ≤ c) (h4 : d ≤ d') (h5 : a ≤ b) (h6 : c ≤ d) : wi (lft a b c d).1 (lft a b c d).2 (lft a' b' c' d').1 (lft a' b' c' d').2 = true := by
  by_cases z : c' = d'
  · obtain rfl : c = d := by omega
    obtain rfl : c = c' := by omega
    have e : lft a b c c = lim (min (a * 2 ^ cnt c) (b * 2 ^ cnt c)) (max (a * 2 ^ cnt c) (b * 2 ^ cnt c)) := by unfold lft; rw [if_pos rfl]
    have e' : lft a' b' c d' = lim (min (a' * 2 ^ cnt c) (b' * 2 ^ cnt c)) (max (a' * 2 ^ cnt c) (b' * 2 ^ cnt c)) := by unfold lft; rw [if_pos z]
    rw [e, e']
    have p : (0 : Int) ≤ 2 ^ cnt c := Int.le_of_lt (Int.pow_pos (by decide))
    have e1 := Int.mul_le_mul_of_nonneg_right h1 p
    have e2 := Int.mul_le_mul_of_nonneg_right h2 p
    have e3 := Int.mul_le_mul_of_nonneg_right h5 p
    exact lim_in _ _ _ _ (by omega) (by omega) (by omega)
  · have e' : lft a' b' c' d' = (-2147483648, 2147483647) := by unfold lft; rw [if_neg z]
    rw [e']; exact rg_full (rg_lft _ _ _ _)

theorem shr_facts (n : Int) (k : Nat) : (0 ≤ n → 0 ≤ n / 2 ^ k ∧ n / 2 ^ k ≤ n) ∧ (n < 0 → n ≤ n / 2 ^ k ∧ n / 2 ^ k ≤ -1) := by
  have p : (0 : Int) < 2 ^ k := Int.pow_pos (by decide)
  refine ⟨fun h => ⟨Int.ediv_nonneg h (by omega), Int.ediv_le_self _ h⟩, fun h => ⟨?_, ?_⟩⟩
  · rw [Int.le_ediv_iff_mul_le p]
    have := Int.mul_le_mul_of_nonpos_left (a := n) (by omega) (show (1 : Int) ≤ 2 ^ k by omega)
    omega
  · have := Int.ediv_neg_of_neg_of_pos h p
    omega
theorem rgt_has (a b c d n m : Int) (h1 : a ≤ n) (h2 : n ≤ b) (h3 : c ≤ m) (h4 : m ≤ d) : ct (rgt a b c d).1 (rgt a b c d).2 (n / 2 ^ cnt m) = true := by
  have p : (0 : Int) < 2 ^ cnt m := Int.pow_pos (by decide)
  rw [ct_iff]; unfold rgt
  split
  · obtain rfl : m = c := by omega
    exact ⟨Int.ediv_le_ediv p h1, Int.ediv_le_ediv p h2⟩
  · have := shr_facts n (cnt m)
    simp only
    split <;> split <;> omega
theorem rgt_in (a b c d a' b' c' d' : Int) (h1 : a' ≤ a) (h2 : b ≤ b') (h3 : c' ≤ c) (h4 : d ≤ d') (h5 : a ≤ b) (h6 : c ≤ d) : wi (rgt a b c d).1 (rgt a b c d).2 (rgt a' b' c' d').1 (rgt a' b' c' d').2 = true := by
  by_cases z : c = d
  · have k1 := rgt_has a' b' c' d' a c h1 (by omega) h3 (by omega)
    have k2 := rgt_has a' b' c' d' b c (by omega) h2 h3 (by omega)
    have e : rgt a b c d = (a / 2 ^ cnt c, b / 2 ^ cnt c) := by unfold rgt; rw [if_pos z]
    rw [ct_iff] at k1 k2
    rw [e, wi_iff]; right
    exact ⟨by omega, k1.1, k2.2⟩
  · have z' : ¬ c' = d' := by omega
    have e : rgt a b c d = (if a ≥ 0 then 0 else a, if b < 0 then -1 else b) := by unfold rgt; rw [if_neg z]
    have e' : rgt a' b' c' d' = (if a' ≥ 0 then 0 else a', if b' < 0 then -1 else b') := by unfold rgt; rw [if_neg z']
    rw [wi_iff, e, e']
    clear e e'
    simp only
    split <;> split <;> split <;> split <;> omega

end Go.Proofs.YtcchelfopbgolaaPlain
