/- Plain laws of joins and meets. Conditions: none. -/
import Derived.Test.YtcchelfopbgolaaPlain
namespace Go.Proofs.YtcchelfopbgolaaPlain

theorem jn_def (a b c d : Int) : (a > b ∧ c > d ∧ jn a b c d = (1, 0)) ∨ (a > b ∧ c ≤ d ∧ jn a b c d = (c, d)) ∨ (a ≤ b ∧ c > d ∧ jn a b c d = (a, b)) ∨ (a ≤ b ∧ c ≤ d ∧ jn a b c d = (min a c, max b d)) := by
  unfold jn
  by_cases h1 : a > b <;> by_cases h2 : c > d <;> simp [h1, h2] <;> omega
theorem met_def (a b c d : Int) : ((a > b ∨ c > d ∨ max a c > min b d) ∧ met a b c d = (1, 0)) ∨ (a ≤ b ∧ c ≤ d ∧ max a c ≤ min b d ∧ met a b c d = (max a c, min b d)) := by
  unfold met
  by_cases h : a > b ∨ c > d ∨ max a c > min b d
  · left; exact ⟨h, if_pos h⟩
  · right; exact ⟨by omega, by omega, by omega, if_neg h⟩

theorem jn_left (a b c d : Int) : wi a b (jn a b c d).1 (jn a b c d).2 = true := by
  unfold wi; rw [decide_eq_true_eq]
  rcases jn_def a b c d with ⟨h1, h2, h⟩ | ⟨h1, h2, h⟩ | ⟨h1, h2, h⟩ | ⟨h1, h2, h⟩ <;> rw [h] <;> dsimp only <;> omega
theorem jn_right (a b c d : Int) : wi c d (jn a b c d).1 (jn a b c d).2 = true := by
  unfold wi; rw [decide_eq_true_eq]
  rcases jn_def a b c d with ⟨h1, h2, h⟩ | ⟨h1, h2, h⟩ | ⟨h1, h2, h⟩ | ⟨h1, h2, h⟩ <;> rw [h] <;> dsimp only <;> omega
theorem jn_least (a b c d e f : Int) (h1 : wi a b e f = true) (h2 : wi c d e f = true) : wi (jn a b c d).1 (jn a b c d).2 e f = true := by
  unfold wi at *; rw [decide_eq_true_eq] at *
  rcases jn_def a b c d with ⟨k1, k2, h⟩ | ⟨k1, k2, h⟩ | ⟨k1, k2, h⟩ | ⟨k1, k2, h⟩ <;> rw [h] <;> dsimp only <;> omega
theorem met_has (a b c d n : Int) : ct (met a b c d).1 (met a b c d).2 n = (ct a b n && ct c d n) := by
  unfold ct
  rw [← Bool.decide_and, decide_eq_decide]
  rcases met_def a b c d with ⟨k, h⟩ | ⟨k1, k2, k3, h⟩ <;> rw [h] <;> dsimp only <;> omega
theorem met_void (a b c d : Int) (h : (met a b c d).1 > (met a b c d).2) : (met a b c d).1 = 1 ∧ (met a b c d).2 = 0 := by
  rcases met_def a b c d with ⟨k, e⟩ | ⟨k1, k2, k3, e⟩ <;> rw [e] at h ⊢ <;> dsimp only at h ⊢ <;> omega
theorem jn_empty (a b c d : Int) : decide ((jn a b c d).1 > (jn a b c d).2) = (decide (a > b) && decide (c > d)) := by
  rw [← Bool.decide_and, decide_eq_decide]
  rcases jn_def a b c d with ⟨h1, h2, h⟩ | ⟨h1, h2, h⟩ | ⟨h1, h2, h⟩ | ⟨h1, h2, h⟩ <;> rw [h] <;> dsimp only <;> omega
theorem jn_void (a b c d : Int) (h : (jn a b c d).1 > (jn a b c d).2) : (jn a b c d).1 = 1 ∧ (jn a b c d).2 = 0 := by
  rcases jn_def a b c d with ⟨h1, h2, e⟩ | ⟨h1, h2, e⟩ | ⟨h1, h2, e⟩ | ⟨h1, h2, e⟩ <;> rw [e] at h ⊢ <;> dsimp only at h ⊢ <;> omega
theorem jn_comm (a b c d : Int) : jn c d a b = jn a b c d := by
  rcases jn_def a b c d with ⟨h1, h2, e⟩ | ⟨h1, h2, e⟩ | ⟨h1, h2, e⟩ | ⟨h1, h2, e⟩ <;>
  rcases jn_def c d a b with ⟨k1, k2, k⟩ | ⟨k1, k2, k⟩ | ⟨k1, k2, k⟩ | ⟨k1, k2, k⟩ <;> rw [e, k] <;> first | rfl | (exfalso; omega) | (congr 1 <;> omega)
theorem met_comm (a b c d : Int) : met c d a b = met a b c d := by
  rcases met_def a b c d with ⟨h1, e⟩ | ⟨h1, h2, h3, e⟩ <;>
  rcases met_def c d a b with ⟨k1, k⟩ | ⟨k1, k2, k3, k⟩ <;> rw [e, k] <;> first | rfl | (exfalso; omega) | (congr 1 <;> omega)
theorem jn_assoc (a b c d e f : Int) : jn (jn a b c d).1 (jn a b c d).2 e f = jn a b (jn c d e f).1 (jn c d e f).2 := by
  rcases jn_def a b c d with ⟨h1, h2, p⟩ | ⟨h1, h2, p⟩ | ⟨h1, h2, p⟩ | ⟨h1, h2, p⟩ <;>
  rcases jn_def c d e f with ⟨k1, k2, q⟩ | ⟨k1, k2, q⟩ | ⟨k1, k2, q⟩ | ⟨k1, k2, q⟩ <;> rw [p, q] <;> dsimp only <;> unfold jn <;> (repeat' split) <;> first | rfl | (exfalso; omega) | (congr 1 <;> omega)
theorem met_assoc (a b c d e f : Int) : met (met a b c d).1 (met a b c d).2 e f = met a b (met c d e f).1 (met c d e f).2 := by
  rcases met_def a b c d with ⟨h1, p⟩ | ⟨h1, h2, h3, p⟩ <;>
  rcases met_def c d e f with ⟨k1, q⟩ | ⟨k1, k2, k3, q⟩ <;> rw [p, q] <;> dsimp only <;> unfold met <;> (repeat' split) <;> first | rfl | (exfalso; omega) | (congr 1 <;> omega)
end Go.Proofs.YtcchelfopbgolaaPlain
