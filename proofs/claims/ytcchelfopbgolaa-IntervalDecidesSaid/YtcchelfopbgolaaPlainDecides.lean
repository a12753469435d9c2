/- Plain laws of the comparisons of intervals. Conditions: as each says. -/
import Derived.Test.YtcchelfopbgolaaPlain
namespace Go.Proofs.YtcchelfopbgolaaPlain
open Go.RowKit Go
set_option linter.unusedSimpArgs false
theorem iap_lt (a b c d : Int) (h1 : a ≤ b) (h2 : c ≤ d) : iap 18 a b c d = tru (decide (b < c)) (decide (d ≤ a)) := by
  unfold iap dec tru
  rw [if_neg (by omega), if_neg (by omega)]
  by_cases h : a = b ∧ c = d
  · obtain ⟨rfl, rfl⟩ := h
    simp only [ap18, tr]
    by_cases h : a < c
    · simp [h]
    · simp [h, Int.not_lt.mp h]
  · simp [h]
theorem iap_ge (a b c d : Int) (h1 : a ≤ b) (h2 : c ≤ d) : iap 21 a b c d = tru (decide (d ≤ a)) (decide (b < c)) := by
  unfold iap dec tru
  rw [if_neg (by omega), if_neg (by omega)]
  by_cases h : a = b ∧ c = d
  · obtain ⟨rfl, rfl⟩ := h
    simp only [ap21, tr]
    by_cases h : a < c
    · simp [h, Int.not_le.mpr h]
    · simp [h, Int.not_lt.mp h]
  · simp [h]
theorem iap_le (a b c d : Int) (h1 : a ≤ b) (h2 : c ≤ d) : iap 19 a b c d = tru (decide (b ≤ c)) (decide (d < a)) := by
  unfold iap dec tru
  rw [if_neg (by omega), if_neg (by omega)]
  by_cases h : a = b ∧ c = d
  · obtain ⟨rfl, rfl⟩ := h
    simp only [ap19, tr]
    by_cases h : a ≤ c
    · simp [h]
    · simp [h, Int.not_le.mp h]
  · simp [h]
theorem iap_gt (a b c d : Int) (h1 : a ≤ b) (h2 : c ≤ d) : iap 20 a b c d = tru (decide (d < a)) (decide (b ≤ c)) := by
  unfold iap dec tru
  rw [if_neg (by omega), if_neg (by omega)]
  by_cases h : a = b ∧ c = d
  · obtain ⟨rfl, rfl⟩ := h
    simp only [ap20, tr]
    by_cases h : a ≤ c
    · simp [h, Int.not_lt.mpr h]
    · simp [h, Int.not_le.mp h]
  · simp [h]
theorem met_apart (a b c d : Int) (h1 : a ≤ b) (h2 : c ≤ d) : decide ((met a b c d).1 > (met a b c d).2) = decide (¬ (a ≤ d ∧ c ≤ b)) := by
  rw [decide_eq_decide]
  unfold met
  by_cases k : a > b ∨ c > d ∨ max a c > min b d
  · rw [if_pos k]; dsimp only; omega
  · rw [if_neg k]; dsimp only; omega
theorem iap_16 (a b c d : Int) (h1 : a ≤ b) (h2 : c ≤ d) : iap 16 a b c d = if a = b ∧ c = d then (tr (a == c), tr (a == c)) else tru false (decide (¬ (a ≤ d ∧ c ≤ b))) := by
  unfold iap dec
  rw [if_neg (by omega), if_neg (by omega), met_apart a b c d h1 h2]
  by_cases h : a = b ∧ c = d
  · rw [if_pos h, if_pos h, ap16]; simp
  · rw [if_neg h, if_neg h]; rfl
theorem iap_17 (a b c d : Int) (h1 : a ≤ b) (h2 : c ≤ d) : iap 17 a b c d = if a = b ∧ c = d then (tr (a != c), tr (a != c)) else tru (decide (¬ (a ≤ d ∧ c ≤ b))) false := by
  unfold iap dec
  rw [if_neg (by omega), if_neg (by omega), met_apart a b c d h1 h2]
  by_cases h : a = b ∧ c = d
  · rw [if_pos h, if_pos h, ap17]; simp
  · rw [if_neg h, if_neg h]; rfl
/-- Equality, and its denial: flipped, and holding at one exactly where the two meet. -/
theorem iap_eq (a b c d : Int) (h1 : a ≤ b) (h2 : c ≤ d) :
    wrap32 (1 - (iap 16 a b c d).2) = (iap 17 a b c d).1 ∧ wrap32 (1 - (iap 16 a b c d).1) = (iap 17 a b c d).2 ∧ ct (iap 16 a b c d).1 (iap 16 a b c d).2 1 = decide (a ≤ d ∧ c ≤ b) := by
  rw [iap_16 a b c d h1 h2, iap_17 a b c d h1 h2]
  by_cases h : a = b ∧ c = d
  · rw [if_pos h, if_pos h]
    obtain ⟨rfl, rfl⟩ := h
    by_cases k : a = c
    · subst k
      have e : decide (a ≤ a ∧ a ≤ a) = true := decide_eq_true (by omega)
      rw [e]
      simp only [bne_self_eq_false, beq_self_eq_true, tr]
      decide
    · have e : decide (a ≤ c ∧ c ≤ a) = false := decide_eq_false (by omega)
      have e2 : (a == c) = false := beq_eq_false_iff_ne.mpr k
      have e3 : (a != c) = true := bne_iff_ne.mpr k
      rw [e, e2, e3]
      decide
  · rw [if_neg h, if_neg h]
    by_cases k : a ≤ d ∧ c ≤ b
    · rw [decide_eq_true k, decide_eq_false (not_not_intro k)]; decide
    · rw [decide_eq_false k, decide_eq_true k]; decide
theorem tru_flip (p q : Bool) (h : ¬ (p = true ∧ q = true)) : wrap32 (1 - (tru p q).2) = (tru q p).1 ∧ wrap32 (1 - (tru p q).1) = (tru q p).2 := by
  cases p <;> cases q <;> first | exact absurd ⟨rfl, rfl⟩ h | decide
theorem tru_one (p q : Bool) (h : ¬ (p = true ∧ q = true)) : ct (tru p q).1 (tru p q).2 1 = !q := by
  cases p <;> cases q <;> first | exact absurd ⟨rfl, rfl⟩ h | decide
theorem tru_zero (p q : Bool) (h : ¬ (p = true ∧ q = true)) : ct (tru p q).1 (tru p q).2 0 = !p := by
  cases p <;> cases q <;> first | exact absurd ⟨rfl, rfl⟩ h | decide
end Go.Proofs.YtcchelfopbgolaaPlain
