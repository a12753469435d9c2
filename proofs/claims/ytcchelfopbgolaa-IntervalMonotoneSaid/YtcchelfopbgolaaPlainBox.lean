/- Plain laws: a value of members lies in the hull of the corners; the hull grows with its operands. Conditions: as each lemma says. -/
import Derived.Test.YtcchelfopbgolaaPlainJoins
namespace Go.Proofs.YtcchelfopbgolaaPlain
open Go.RowKit Go
set_option linter.unusedVariables false

theorem ct_iff (a b n : Int) : ct a b n = true ↔ a ≤ n ∧ n ≤ b := by unfold ct; exact decide_eq_true_iff
theorem wi_iff (a b c d : Int) : wi a b c d = true ↔ (a > b ∨ (c ≤ d ∧ c ≤ a ∧ b ≤ d)) := by unfold wi; exact decide_eq_true_iff
theorem wi_trans {a b c d e f : Int} (h1 : wi a b c d = true) (h2 : wi c d e f = true) : wi a b e f = true := by
  rw [wi_iff] at *; omega
theorem ct_wi {a b c d n : Int} (h1 : ct a b n = true) (h2 : wi a b c d = true) : ct c d n = true := by
  rw [ct_iff] at *; rw [wi_iff] at h2; omega
theorem wi_self (a b : Int) : wi a b a b = true := by rw [wi_iff]; omega
theorem wi_one (a b n : Int) (h : ct a b n = true) : wi n n a b = true := by rw [wi_iff]; rw [ct_iff] at h; omega

/-- A function stays between its values at the corners. -/
def Box (f : Int → Int → Int) (a b c d : Int) : Prop := ∀ n m, a ≤ n → n ≤ b → c ≤ m → m ≤ d →
  min (f a c) (min (f a d) (min (f b c) (f b d))) ≤ f n m ∧ f n m ≤ max (f a c) (max (f a d) (max (f b c) (f b d)))

theorem box_add (a b c d : Int) : Box (fun x y => x + y) a b c d := fun n m h1 h2 h3 h4 => by simp only; omega
theorem box_sub (a b c d : Int) : Box (fun x y => x - y) a b c d := fun n m h1 h2 h3 h4 => by simp only; omega
theorem lin (n c d m : Int) (h3 : c ≤ m) (h4 : m ≤ d) : (n * c ≤ n * m ∧ n * m ≤ n * d) ∨ (n * d ≤ n * m ∧ n * m ≤ n * c) := by
  rcases Int.le_total 0 n with h | h
  · exact Or.inl ⟨Int.mul_le_mul_of_nonneg_left h3 h, Int.mul_le_mul_of_nonneg_left h4 h⟩
  · exact Or.inr ⟨Int.mul_le_mul_of_nonpos_left h h4, Int.mul_le_mul_of_nonpos_left h h3⟩
theorem box_mul (a b c d : Int) : Box (fun x y => x * y) a b c d := fun n m h1 h2 h3 h4 => by
  have e1 := lin a c d m h3 h4
  have e2 := lin b c d m h3 h4
  have e3 := lin m a b n h1 h2
  rw [Int.mul_comm m a, Int.mul_comm m b, Int.mul_comm m n] at e3
  simp only
  generalize a * c = p at *
  generalize a * d = q at *
  generalize b * c = r at *
  generalize b * d = s at *
  generalize a * m = t at *
  generalize b * m = u at *
  generalize n * m = v at *
  omega

/-- Quotients by a positive divisor. -/
theorem tdiv_anti {n m m' : Int} (h0 : 0 ≤ n) (h1 : 1 ≤ m) (h2 : m ≤ m') : Int.tdiv n m' ≤ Int.tdiv n m := by
  obtain ⟨k, rfl⟩ := Int.eq_ofNat_of_zero_le h0
  obtain ⟨i, rfl⟩ := Int.eq_ofNat_of_zero_le (show 0 ≤ m by omega)
  obtain ⟨j, rfl⟩ := Int.eq_ofNat_of_zero_le (show 0 ≤ m' by omega)
  rw [← Int.ofNat_tdiv, ← Int.ofNat_tdiv]
  exact Int.ofNat_le.mpr (Nat.div_le_div_left (by omega) (by omega))
theorem div_lin (n c d m : Int) (hc : 1 ≤ c) (h3 : c ≤ m) (h4 : m ≤ d) : (Int.tdiv n c ≤ Int.tdiv n m ∧ Int.tdiv n m ≤ Int.tdiv n d) ∨ (Int.tdiv n d ≤ Int.tdiv n m ∧ Int.tdiv n m ≤ Int.tdiv n c) := by
  rcases Int.le_total 0 n with h | h
  · exact Or.inr ⟨tdiv_anti h (by omega) h4, tdiv_anti h hc h3⟩
  · have e1 := tdiv_anti (n := -n) (by omega) (show 1 ≤ m by omega) h4
    have e2 := tdiv_anti (n := -n) (by omega) hc h3
    rw [Int.neg_tdiv, Int.neg_tdiv] at e1 e2
    exact Or.inl ⟨by omega, by omega⟩
theorem box_div (a b c d : Int) (hc : 1 ≤ c) : Box Int.tdiv a b c d := fun n m h1 h2 h3 h4 => by
  have e1 := div_lin a c d m hc h3 h4
  have e2 := div_lin b c d m hc h3 h4
  have e3 := Int.tdiv_le_tdiv (c := m) (by omega) h1
  have e4 := Int.tdiv_le_tdiv (c := m) (by omega) h2
  generalize Int.tdiv a c = p at *
  generalize Int.tdiv a d = q at *
  generalize Int.tdiv b c = r at *
  generalize Int.tdiv b d = s at *
  generalize Int.tdiv a m = t at *
  generalize Int.tdiv b m = u at *
  generalize Int.tdiv n m = v at *
  omega
theorem box_ndiv (a b c d : Int) (hd : d ≤ -1) : Box Int.tdiv a b c d := fun n m h1 h2 h3 h4 => by
  have h := box_div a b (-d) (-c) (by omega) n (-m) h1 h2 (by omega) (by omega)
  simp only [Int.tdiv_neg] at h
  generalize Int.tdiv a c = p at *
  generalize Int.tdiv a d = q at *
  generalize Int.tdiv b c = r at *
  generalize Int.tdiv b d = s at *
  generalize Int.tdiv n m = v at *
  omega

theorem lim_has (lo hi v : Int) (h : lo ≤ v ∧ v ≤ hi) : ct (lim lo hi).1 (lim lo hi).2 (wrap32 v) = true := by
  rw [ct_iff]; unfold lim
  split
  · exact wrap32_in v
  · rw [wrap32_id (by omega) (by omega)]; exact h
theorem lim_in (lo hi lo' hi' : Int) (h : lo' ≤ lo) (h1 : hi ≤ hi') (h2 : lo ≤ hi) : wi (lim lo hi).1 (lim lo hi).2 (lim lo' hi').1 (lim lo' hi').2 = true := by
  rw [wi_iff]; unfold lim
  split <;> split <;> simp only <;> omega
theorem lim_wide (lo hi a b : Int) (h : a ≤ lo ∧ hi ≤ b) (hab : -2147483648 ≤ a ∧ b ≤ 2147483647) : lim lo hi = (lo, hi) := by
  unfold lim; rw [if_neg (by omega)]

theorem cor_has {f : Int → Int → Int} {a b c d n m : Int} (H : Box f a b c d) (h1 : a ≤ n) (h2 : n ≤ b) (h3 : c ≤ m) (h4 : m ≤ d) : ct (cor f a b c d).1 (cor f a b c d).2 (wrap32 (f n m)) = true :=
  lim_has _ _ _ (H n m h1 h2 h3 h4)
theorem cor_in {f : Int → Int → Int} {a b c d a' b' c' d' : Int} (H : Box f a' b' c' d') (h1 : a' ≤ a) (h2 : b ≤ b') (h3 : c' ≤ c) (h4 : d ≤ d') (h5 : a ≤ b) (h6 : c ≤ d) : wi (cor f a b c d).1 (cor f a b c d).2 (cor f a' b' c' d').1 (cor f a' b' c' d').2 = true := by
  have e1 := H a c h1 (by omega) h3 (by omega)
  have e2 := H a d h1 (by omega) (by omega) h4
  have e3 := H b c (by omega) h2 h3 (by omega)
  have e4 := H b d (by omega) h2 (by omega) h4
  apply lim_in
  · generalize min (f a' c') (min (f a' d') (min (f b' c') (f b' d'))) = k at *
    omega
  · generalize max (f a' c') (max (f a' d') (max (f b' c') (f b' d'))) = k at *
    omega
  · omega

theorem dpart_left (p : Int × Int) (a b : Int) (q : Int × Int) : wi p.1 p.2 (dpart p a b q).1 (dpart p a b q).2 = true := by
  unfold dpart; split
  · exact wi_self _ _
  · exact jn_left _ _ _ _
theorem dpart_right (p : Int × Int) (a b : Int) (q : Int × Int) (h : ¬ q.1 > q.2) : wi (cor Int.tdiv a b q.1 q.2).1 (cor Int.tdiv a b q.1 q.2).2 (dpart p a b q).1 (dpart p a b q).2 = true := by
  unfold dpart; rw [if_neg h]
  exact jn_right _ _ _ _
theorem dpart_in (p p' : Int × Int) (a b a' b' : Int) (q q' : Int × Int) (hp : wi p.1 p.2 p'.1 p'.2 = true) (hq : q.1 ≤ q.2 → q'.1 ≤ q'.2 ∧ wi (cor Int.tdiv a b q.1 q.2).1 (cor Int.tdiv a b q.1 q.2).2 (cor Int.tdiv a' b' q'.1 q'.2).1 (cor Int.tdiv a' b' q'.1 q'.2).2 = true) :
    wi (dpart p a b q).1 (dpart p a b q).2 (dpart p' a' b' q').1 (dpart p' a' b' q').2 = true := by
  by_cases h : q.1 > q.2
  · have e : dpart p a b q = p := by unfold dpart; rw [if_pos h]
    rw [e]
    exact wi_trans hp (dpart_left _ _ _ _)
  · obtain ⟨h1, h2⟩ := hq (by omega)
    have e : dpart p a b q = jn p.1 p.2 (cor Int.tdiv a b q.1 q.2).1 (cor Int.tdiv a b q.1 q.2).2 := by unfold dpart; rw [if_neg h]
    rw [e]
    exact jn_least _ _ _ _ _ _ (wi_trans hp (dpart_left _ _ _ _)) (wi_trans h2 (dpart_right _ _ _ _ (by omega)))

/-- The two parts of a divisor. -/
theorem part_neg (c d : Int) (hc : -2147483648 ≤ c) (hd : d ≤ 2147483647) : (¬ (met c d (-2147483648) (-1)).1 > (met c d (-2147483648) (-1)).2 ↔ c ≤ d ∧ c ≤ -1) ∧ (c ≤ d → c ≤ -1 → met c d (-2147483648) (-1) = (c, min d (-1))) := by
  rcases met_def c d (-2147483648) (-1) with ⟨h, e⟩ | ⟨h1, h2, h3, e⟩ <;> rw [e] <;> refine ⟨by simp only; omega, fun k1 k2 => ?_⟩ <;> first | (exfalso; omega) | (rw [Prod.mk.injEq]; omega)
theorem part_pos (c d : Int) (hc : -2147483648 ≤ c) (hd : d ≤ 2147483647) : (¬ (met c d 1 2147483647).1 > (met c d 1 2147483647).2 ↔ c ≤ d ∧ 1 ≤ d) ∧ (c ≤ d → 1 ≤ d → met c d 1 2147483647 = (max c 1, d)) := by
  rcases met_def c d 1 2147483647 with ⟨h, e⟩ | ⟨h1, h2, h3, e⟩ <;> rw [e] <;> refine ⟨by simp only; omega, fun k1 k2 => ?_⟩ <;> first | (exfalso; omega) | (rw [Prod.mk.injEq]; omega)

theorem dv_has (a b c d n m : Int) (h1 : a ≤ n) (h2 : n ≤ b) (h3 : c ≤ m) (h4 : m ≤ d) (hc : -2147483648 ≤ c) (hd : d ≤ 2147483647) (hm : m ≠ 0) : ct (dv a b c d).1 (dv a b c d).2 (wrap32 (Int.tdiv n m)) = true := by
  unfold dv
  rw [if_neg (by omega)]
  split
  · rw [ct_iff]; exact wrap32_in _
  by_cases h : m < 0
  · obtain ⟨p1, p2⟩ := part_neg c d hc hd
    have p2 := p2 (by omega) (by omega)
    have p1 := p1.mpr ⟨by omega, by omega⟩
    refine ct_wi (ct_wi ?_ (dpart_right (1, 0) a b _ p1)) (dpart_left _ _ _ _)
    rw [p2]
    exact cor_has (box_ndiv a b c (min d (-1)) (by omega)) h1 h2 h3 (by omega)
  · obtain ⟨p1, p2⟩ := part_pos c d hc hd
    have p2 := p2 (by omega) (by omega)
    have p1 := p1.mpr ⟨by omega, by omega⟩
    refine ct_wi ?_ (dpart_right _ a b _ p1)
    rw [p2]
    exact cor_has (box_div a b (max c 1) d (by omega)) h1 h2 (by omega) h4

theorem dv_in (a b c d a' b' c' d' : Int) (h1 : a' ≤ a) (h2 : b ≤ b') (h3 : c' ≤ c) (h4 : d ≤ d') (h5 : a ≤ b) (h6 : c ≤ d) (hc : -2147483648 ≤ c') (hd : d' ≤ 2147483647) (hD : -2147483648 ≤ (dv a b c d).1 ∧ (dv a b c d).2 ≤ 2147483647) : wi (dv a b c d).1 (dv a b c d).2 (dv a' b' c' d').1 (dv a' b' c' d').2 = true := by
  by_cases z : c = 0 ∧ d = 0
  · have e : dv a b c d = (1, 0) := by unfold dv; rw [if_pos z]
    rw [e, wi_iff]; left; decide
  by_cases f' : (a' ≤ -2147483648 ∧ -2147483648 ≤ b') ∧ (c' ≤ -1 ∧ -1 ≤ d')
  · have e : dv a' b' c' d' = (-2147483648, 2147483647) := by unfold dv; rw [if_neg (by omega), if_pos f']
    rw [e, wi_iff]; right; simp only; omega
  have e : dv a b c d = dpart (dpart (1, 0) a b (met c d (-2147483648) (-1))) a b (met c d 1 2147483647) := by unfold dv; rw [if_neg z, if_neg (by omega)]
  have e' : dv a' b' c' d' = dpart (dpart (1, 0) a' b' (met c' d' (-2147483648) (-1))) a' b' (met c' d' 1 2147483647) := by unfold dv; rw [if_neg (by omega), if_neg f']
  rw [e, e']
  obtain ⟨p1, p2⟩ := part_neg c d (by omega) (by omega)
  obtain ⟨p1', p2'⟩ := part_neg c' d' hc hd
  obtain ⟨q1, q2⟩ := part_pos c d (by omega) (by omega)
  obtain ⟨q1', q2'⟩ := part_pos c' d' hc hd
  refine dpart_in _ _ _ _ _ _ _ _ (dpart_in _ _ _ _ _ _ _ _ (wi_self _ _) (fun h => ?_)) (fun h => ?_)
  · have k := p1.mp (by omega)
    refine ⟨Int.not_lt.mp (p1'.mpr ⟨by omega, by omega⟩), ?_⟩
    rw [p2 k.1 k.2, p2' (by omega) (by omega)]
    exact cor_in (box_ndiv a' b' c' (min d' (-1)) (by omega)) h1 h2 h3 (by omega) h5 (by omega)
  · have k := q1.mp (by omega)
    refine ⟨Int.not_lt.mp (q1'.mpr ⟨by omega, by omega⟩), ?_⟩
    rw [q2 k.1 k.2, q2' (by omega) (by omega)]
    exact cor_in (box_div a' b' (max c' 1) d' (by omega)) h1 h2 (by omega) h4 h5 (by omega)

end Go.Proofs.YtcchelfopbgolaaPlain
