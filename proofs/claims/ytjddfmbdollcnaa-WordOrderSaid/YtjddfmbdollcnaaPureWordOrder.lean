/- For every three words, the law WordOrder answers true: exactly one of less, equal and greater holds, the others are their negations, the order is transitive. Conditions: none beyond the kinds of the arguments. -/
import Derived.Test.YtjddfmbdollcnaaPWordOrderx2
import Derived.Test.YtjddfmbdollcnaaPlain
namespace Go.Proofs.Ytjddfmbdollcnaa.Pure
open Go.RowKit Go.Proofs.Ytjddfmbdollcnaa.PWordOrder Go.Proofs.YtjddfmbdollcnaaW.PrintWords Go.Proofs.YtjddfmbdollcnaaW.PrintLast
open Go.Proofs.YtjddfmbdollcnaaPlain

theorem truth_eq (b : Bool) : word_truth.f b = some (tr b) := by
  unfold word_truth.f tr; split <;> rfl

theorem compare_eq (k x y : Int) (hk : k < 6 ∨ 15 < k) :
    (word_compare.f k x y).bind (fun bt => if bt.2 = true then some (bt.1, (0 : Int)) else some (0, 1)) = some (ap k x y) := by
  unfold word_compare.f ap
  simp only [truth_eq, Option.bind_some]
  rw [if_neg (show ¬ k = 6 by omega), if_neg (show ¬ k = 7 by omega), if_neg (show ¬ k = 8 by omega), if_neg (show ¬ k = 9 by omega), if_neg (show ¬ k = 10 by omega), if_neg (show ¬ k = 11 by omega), if_neg (show ¬ k = 12 by omega), if_neg (show ¬ k = 13 by omega), if_neg (show ¬ k = 14 by omega), if_neg (show ¬ k = 15 by omega)]
  by_cases h16 : k = 16
  · simp [h16]
  by_cases h17 : k = 17
  · simp [h17]
  by_cases h18 : k = 18
  · simp [h18]
  by_cases h19 : k = 19
  · simp [h19]
  by_cases h20 : k = 20
  · simp [h20]
  by_cases h21 : k = 21
  · simp [h21]
  by_cases h22 : k = 22
  · by_cases hx : x = 0
    · simp [h22, hx]
    · have hb : (x != 0) = true := by simpa using hx
      simp [h22, hx, hb]
  by_cases h23 : k = 23
  · by_cases hx : x = 0
    · simp [h23, hx]
    · have hb : (x != 0) = true := by simpa using hx
      simp [h23, hx, hb]
  simp [*]

theorem apply_eq (n : Nat) (k x y : Int) : word_Apply.f (n + 1) k x y = some (ap k x y) := by
  unfold word_Apply.f
  simp only [word_Apply.j0]
  by_cases h6 : k = 6
  · simp [h6, ap]
  by_cases h7 : k = 7
  · simp [h7, ap]
  by_cases h8 : k = 8
  · simp [h8, ap]
  by_cases h9 : k = 9
  · by_cases hy : y = 0 <;> simp [h9, hy, ap]
  by_cases h10 : k = 10
  · by_cases hy : y = 0 <;> simp [h10, hy, ap]
  by_cases h11 : k = 11
  · simp [h11, ap]
  by_cases h12 : k = 12
  · simp [h12, ap]
  by_cases h13 : k = 13
  · simp [h13, ap]
  by_cases h14 : k = 14
  · simp [h14, ap, cnt]
  by_cases h15 : k = 15
  · simp [h15, ap, cnt]
  have := compare_eq k x y (by omega)
  simp only [if_neg h6, if_neg h7, if_neg h8, if_neg h9, if_neg h10, if_neg h11, if_neg h12, if_neg h13, if_neg h14, if_neg h15, beq_iff_eq]
  exact this

theorem awake_eq (n : Nat) : ontimelaw03_awake.f (n + 1) = some true := by
  unfold ontimelaw03_awake.f
  simp only [apply_eq, Option.bind_some]
  decide +kernel


theorem op_eq (n : Nat) (k x y : Int) : ontimelaw03_op.f (n + 1) k x y = some (ap k x y).1 := by
  unfold ontimelaw03_op.f
  rw [apply_eq]; rfl

theorem not_eq (x : Int) : ontimelaw03_not.f x = some (tr (x == 0)) := by
  unfold ontimelaw03_not.f word_Unary.f
  simp [truth_eq]

theorem WordOrder : ontimelaw03_WordOrder.Pure := by
  intro x y z hx hy hz
  refine ⟨3, ?_⟩
  unfold ontimelaw03_WordOrder.f
  simp only [awake_eq, op_eq, not_eq, ontimelaw03_WordOrder.j0, Option.bind_some]
  simp only [ap]
  rcases Int.lt_trichotomy x y with h | h | h
  · have a1 : ¬ y < x := by omega
    have a2 : ¬ x = y := by omega
    have a3 : x ≤ y := by omega
    by_cases h2 : y < z
    · have a4 : x < z := by omega
      simp [h, a1, a2, a3, h2, a4, tr, wrap32]
    · simp [h, a1, a2, a3, h2, tr, wrap32]
  · subst h
    simp [tr, wrap32]
  · have a1 : ¬ x < y := by omega
    have a2 : ¬ x = y := by omega
    have a3 : ¬ x ≤ y := by omega
    have a4 : y ≤ x := by omega
    simp [h, a1, a2, a3, a4, tr, wrap32]

end Go.Proofs.Ytjddfmbdollcnaa.Pure
