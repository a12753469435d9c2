/- For every operator byte and every word, the law WordUnary answers true: word.Unary agrees with the reference. Conditions: none beyond the kinds of the arguments. -/
import Derived.Test.YtjddfmbdollcnaaPWordUnaryx1
import Derived.Test.YtjddfmbdollcnaaPlain
namespace Go.Proofs.Ytjddfmbdollcnaa.Pure
open Go.RowKit Go.Proofs.Ytjddfmbdollcnaa.PWordUnary Go.Proofs.YtjddfmbdollcnaaW.PrintWords Go.Proofs.YtjddfmbdollcnaaW.PrintLast
open Go.Proofs.YtjddfmbdollcnaaPlain

theorem truth_eq (b : Bool) : word_truth.f b = some (tr b) := by
  unfold word_truth.f tr; split <;> rfl

theorem compare_eq (k x y : Int) (hk : k < 6 ∨ 15 < k) :
    (word_compare.f k x y).bind (fun bt => if bt.2 = true then some (bt.1, (0 : Int)) else some (0, 1)) = some (ap k x y) := by
  unfold word_compare.f ap
  simp only [truth_eq, Option.bind_some]
  rw [if_neg (show ¬ k = 6 by omega), if_neg (show ¬ k = 7 by omega), if_neg (show ¬ k = 8 by omega), if_neg (show ¬ k = 9 by omega), if_neg (show ¬ k = 10 by omega), if_neg (show ¬ k = 11 by omega), if_neg (show ¬ k = 12 by omega), if_neg (show ¬ k = 13 by omega), if_neg (show ¬ k = 14 by omega), if_neg (show ¬ k = 15 by omega)]
  by_cases h16 : k = 16
  · simp [h16]
  by_cases h17 : k = 17
  · simp [h17]
  by_cases h18 : k = 18
  · simp [h18]
  by_cases h19 : k = 19
  · simp [h19]
  by_cases h20 : k = 20
  · simp [h20]
  by_cases h21 : k = 21
  · simp [h21]
  by_cases h22 : k = 22
  · by_cases hx : x = 0
    · simp [h22, hx]
    · have hb : (x != 0) = true := by simpa using hx
      simp [h22, hx, hb]
  by_cases h23 : k = 23
  · by_cases hx : x = 0
    · simp [h23, hx]
    · have hb : (x != 0) = true := by simpa using hx
      simp [h23, hx, hb]
  simp [*]

theorem apply_eq (n : Nat) (k x y : Int) : word_Apply.f (n + 1) k x y = some (ap k x y) := by
  unfold word_Apply.f
  simp only [word_Apply.j0]
  by_cases h6 : k = 6
  · simp [h6, ap]
  by_cases h7 : k = 7
  · simp [h7, ap]
  by_cases h8 : k = 8
  · simp [h8, ap]
  by_cases h9 : k = 9
  · by_cases hy : y = 0 <;> simp [h9, hy, ap]
  by_cases h10 : k = 10
  · by_cases hy : y = 0 <;> simp [h10, hy, ap]
  by_cases h11 : k = 11
  · simp [h11, ap]
  by_cases h12 : k = 12
  · simp [h12, ap]
  by_cases h13 : k = 13
  · simp [h13, ap]
  by_cases h14 : k = 14
  · simp [h14, ap, cnt]
  by_cases h15 : k = 15
  · simp [h15, ap, cnt]
  have := compare_eq k x y (by omega)
  simp only [if_neg h6, if_neg h7, if_neg h8, if_neg h9, if_neg h10, if_neg h11, if_neg h12, if_neg h13, if_neg h14, if_neg h15, beq_iff_eq]
  exact this

theorem awake_eq (n : Nat) : ontimelaw03_awake.f (n + 1) = some true := by
  unfold ontimelaw03_awake.f
  simp only [apply_eq, Option.bind_some]
  decide +kernel


theorem refTruth_eq (b : Bool) : ontimeref03_truth.f b = some (tr b) := by
  unfold ontimeref03_truth.f tr; split <;> rfl

theorem wrap_eq (n : Int) (h0 : -9223372036854775808 ≤ n) (h1 : n ≤ 9223372036854775807) : ontimeref03_Wrap.f n = some (wrap32 n) := by
  unfold ontimeref03_Wrap.f
  by_cases hn : 0 ≤ n
  · rw [tmod_pos hn]
    split
    · rw [wrap64_id (by omega) (by omega), if_neg (by omega)]
      unfold wrap32; congr 1; omega
    · rw [if_neg (by omega)]
      unfold wrap32; congr 1; omega
  · rw [tmod_neg (by omega)]
    rw [if_neg (by omega)]
    split
    · rw [wrap64_id (by omega) (by omega)]
      unfold wrap32; congr 1; omega
    · unfold wrap32; congr 1; omega

theorem WordUnary : ontimelaw03_WordUnary.Pure := by
  intro k x _ hx
  obtain ⟨hx0, hx1⟩ := wf_i32 hx
  refine ⟨1, ?_⟩
  unfold ontimelaw03_WordUnary.f
  rw [awake_eq 0]
  unfold word_Unary.f ontimeref03_Unary.f
  rw [wrap64_id (n := x) (by omega) (by omega), wrap64_id (n := -x) (by omega) (by omega), wrap_eq _ (by omega) (by omega)]
  simp only [truth_eq, refTruth_eq]
  by_cases h4 : k = 4
  · simp [h4]
  by_cases h5 : k = 5
  · simp [h5]
  simp [h4, h5]

end Go.Proofs.Ytjddfmbdollcnaa.Pure
