/- For every three words, the law WordRing answers true: words are a commutative ring, and the bitwise operators commute and associate. Conditions: none beyond the kinds of the arguments. -/
import Derived.Test.YtjddfmbdollcnaaPWordRingx2
import Derived.Test.YtjddfmbdollcnaaPlain
namespace Go.Proofs.Ytjddfmbdollcnaa.Pure
open Go.RowKit Go.Proofs.Ytjddfmbdollcnaa.PWordRing Go.Proofs.YtjddfmbdollcnaaW.PrintWords Go.Proofs.YtjddfmbdollcnaaW.PrintLast
open Go.Proofs.YtjddfmbdollcnaaPlain

theorem truth_eq (b : Bool) : word_truth.f b = some (tr b) := by
  unfold word_truth.f tr; split <;> rfl

theorem compare_eq (k x y : Int) (hk : k < 6 ∨ 15 < k) :
    (word_compare.f k x y).bind (fun bt => if bt.2 = true then some (bt.1, (0 : Int)) else some (0, 1)) = some (ap k x y) := by
  unfold word_compare.f ap
  simp only [truth_eq, Option.bind_some]
  rw [if_neg (show ¬ k = 6 by omega), if_neg (show ¬ k = 7 by omega), if_neg (show ¬ k = 8 by omega), if_neg (show ¬ k = 9 by omega), if_neg (show ¬ k = 10 by omega), if_neg (show ¬ k = 11 by omega), if_neg (show ¬ k = 12 by omega), if_neg (show ¬ k = 13 by omega), if_neg (show ¬ k = 14 by omega), if_neg (show ¬ k = 15 by omega)]
  by_cases h16 : k = 16
  · simp [h16]
  by_cases h17 : k = 17
  · simp [h17]
  by_cases h18 : k = 18
  · simp [h18]
  by_cases h19 : k = 19
  · simp [h19]
  by_cases h20 : k = 20
  · simp [h20]
  by_cases h21 : k = 21
  · simp [h21]
  by_cases h22 : k = 22
  · by_cases hx : x = 0
    · simp [h22, hx]
    · have hb : (x != 0) = true := by simpa using hx
      simp [h22, hx, hb]
  by_cases h23 : k = 23
  · by_cases hx : x = 0
    · simp [h23, hx]
    · have hb : (x != 0) = true := by simpa using hx
      simp [h23, hx, hb]
  simp [*]

theorem apply_eq (n : Nat) (k x y : Int) : word_Apply.f (n + 1) k x y = some (ap k x y) := by
  unfold word_Apply.f
  simp only [word_Apply.j0]
  by_cases h6 : k = 6
  · simp [h6, ap]
  by_cases h7 : k = 7
  · simp [h7, ap]
  by_cases h8 : k = 8
  · simp [h8, ap]
  by_cases h9 : k = 9
  · by_cases hy : y = 0 <;> simp [h9, hy, ap]
  by_cases h10 : k = 10
  · by_cases hy : y = 0 <;> simp [h10, hy, ap]
  by_cases h11 : k = 11
  · simp [h11, ap]
  by_cases h12 : k = 12
  · simp [h12, ap]
  by_cases h13 : k = 13
  · simp [h13, ap]
  by_cases h14 : k = 14
  · simp [h14, ap, cnt]
  by_cases h15 : k = 15
  · simp [h15, ap, cnt]
  have := compare_eq k x y (by omega)
  simp only [if_neg h6, if_neg h7, if_neg h8, if_neg h9, if_neg h10, if_neg h11, if_neg h12, if_neg h13, if_neg h14, if_neg h15, beq_iff_eq]
  exact this

theorem awake_eq (n : Nat) : ontimelaw03_awake.f (n + 1) = some true := by
  unfold ontimelaw03_awake.f
  simp only [apply_eq, Option.bind_some]
  decide +kernel


theorem op_eq (n : Nat) (k x y : Int) : ontimelaw03_op.f (n + 1) k x y = some (ap k x y).1 := by
  unfold ontimelaw03_op.f
  rw [apply_eq]; rfl

theorem neg_eq (x : Int) : ontimelaw03_neg.f x = some (wrap32 (-x)) := by
  unfold ontimelaw03_neg.f word_Unary.f
  simp

theorem ring_comm (k x y : Int) (hk : k = 6 ∨ k = 8 ∨ k = 11 ∨ k = 12 ∨ k = 13) : (ap k x y).1 = (ap k y x).1 := by
  rcases hk with rfl | rfl | rfl | rfl | rfl
  · rw [ap6, ap6, Int.add_comm]
  · rw [ap8, ap8, Int.mul_comm]
  · rw [ap11, ap11, and_bv, and_bv, BitVec.and_comm]
  · rw [ap12, ap12, or_bv, or_bv, BitVec.or_comm]
  · rw [ap13, ap13, xor_bv, xor_bv, BitVec.xor_comm]

theorem ring_assoc (k x y z : Int) (hk : k = 6 ∨ k = 8 ∨ k = 11 ∨ k = 12 ∨ k = 13) : (ap k (ap k x y).1 z).1 = (ap k x (ap k y z).1).1 := by
  rcases hk with rfl | rfl | rfl | rfl | rfl
  · simp only [ap6, add_bv, BitVec.ofInt_toInt, BitVec.add_assoc]
  · simp only [ap8, mul_bv, BitVec.ofInt_toInt, BitVec.mul_assoc]
  · simp only [ap11, and_bv, BitVec.ofInt_toInt, BitVec.and_assoc]
  · simp only [ap12, or_bv, BitVec.ofInt_toInt, BitVec.or_assoc]
  · simp only [ap13, xor_bv, BitVec.ofInt_toInt, BitVec.xor_assoc]

theorem tail_true (n : Nat) (x y z : Int) (l : List Int) (hx0 : -2147483648 ≤ x) (hx1 : x ≤ 2147483647) :
    ontimelaw03_WordRing.l0 (n + 2) x y z l (l.length : Int) (l.length : Int) = some true := by
  have e1 : (ap 8 x (ap 6 y z).1).1 = (ap 6 (ap 8 x y).1 (ap 8 x z).1).1 := by
    simp only [ap6, ap8, add_bv, mul_bv, BitVec.ofInt_toInt, BitVec.mul_add]
  have e2 : (ap 7 x y).1 = (ap 6 x (wrap32 (-y))).1 := by
    simp only [ap6, ap7, add_bv, sub_bv, neg_bv, BitVec.ofInt_toInt, BitVec.sub_eq_add_neg]
  have e3 : (ap 6 x (wrap32 (-x))).1 = 0 := by
    rw [ap6]; unfold wrap32; dsimp only; omega
  have e4 : (ap 8 x 1).1 = x := by
    rw [ap8, Int.mul_one, wrap32_id hx0 hx1]
  simp only [ontimelaw03_WordRing.l0, op_eq, neg_eq, Option.bind_some]
  rw [if_neg (by omega), if_pos e1, if_pos e2, if_pos e3, e4]
  simp

theorem step (n : Nat) (x y z k : Int) (l : List Int) (i m : Int) (h0 : 0 ≤ i) (h1 : i < m) (hm : m = l.length) (hm1 : m < 1000) (hk : rd l i = k)
    (hc : k = 6 ∨ k = 8 ∨ k = 11 ∨ k = 12 ∨ k = 13) : ontimelaw03_WordRing.l0 (n + 2) x y z l m i = ontimelaw03_WordRing.l0 (n + 1) x y z l m (i + 1) := by
  have e1 := ring_comm k x y hc
  have e2 := ring_assoc k x y z hc
  rw [ontimelaw03_WordRing.l0]
  simp only [op_eq, Option.bind_some, hk]
  rw [if_pos h1, if_pos h0, if_pos (by omega), if_pos e1, if_pos e2, wrap64_id (by omega) (by omega)]

theorem WordRing : ontimelaw03_WordRing.Pure := by
  intro x y z hx hy hz
  obtain ⟨hx0, hx1⟩ := wf_i32 hx
  refine ⟨8, ?_⟩
  unfold ontimelaw03_WordRing.f
  rw [awake_eq 7]
  simp only [Option.bind_some, if_pos]
  show ontimelaw03_WordRing.l0 8 x y z [6, 8, 11, 12, 13] 5 0 = some true
  rw [step 6 x y z 6 _ 0 5 (by omega) (by omega) rfl (by omega) rfl (by omega)]
  rw [step 5 x y z 8 _ (0 + 1) 5 (by omega) (by omega) rfl (by omega) rfl (by omega)]
  rw [step 4 x y z 11 _ (0 + 1 + 1) 5 (by omega) (by omega) rfl (by omega) rfl (by omega)]
  rw [step 3 x y z 12 _ (0 + 1 + 1 + 1) 5 (by omega) (by omega) rfl (by omega) rfl (by omega)]
  rw [step 2 x y z 13 _ (0 + 1 + 1 + 1 + 1) 5 (by omega) (by omega) rfl (by omega) rfl (by omega)]
  exact tail_true 1 x y z [6, 8, 11, 12, 13] hx0 hx1

end Go.Proofs.Ytjddfmbdollcnaa.Pure
