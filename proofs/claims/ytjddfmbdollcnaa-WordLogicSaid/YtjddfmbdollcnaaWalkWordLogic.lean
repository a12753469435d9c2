/- The walk of the law WordLogic: it returns true. Conditions: none beyond the kinds of the arguments. -/
import Derived.Test.YtjddfmbdollcnaaPWordOrderx2
import Derived.Test.YtjddfmbdollcnaaPlain
import Derived.Lib.Hide
namespace Go.Proofs.Ytjddfmbdollcnaa.WalkLogic
open Go.RowKit Go.Proofs.Ytjddfmbdollcnaa.PWordOrder Go.Proofs.YtjddfmbdollcnaaW.PrintWords Go.Proofs.YtjddfmbdollcnaaW.PrintLast Go.Proofs.YtjddfmbdollcnaaW.PrintMore
open Go.Proofs.YtjddfmbdollcnaaPlain
set_option linter.unusedSimpArgs false

theorem truth_eq (b : Bool) : word_truth.f b = some (tr b) := by
  unfold word_truth.f tr; split <;> rfl

theorem compare_eq (k x y : Int) (hk : k < 6 ∨ 15 < k) :
    (word_compare.f k x y).bind (fun bt => if bt.2 = true then some (bt.1, (0 : Int)) else some (0, 1)) = some (ap k x y) := by
  unfold word_compare.f ap
  simp only [truth_eq, Option.bind_some]
  rw [if_neg (show ¬ k = 6 by omega), if_neg (show ¬ k = 7 by omega), if_neg (show ¬ k = 8 by omega), if_neg (show ¬ k = 9 by omega), if_neg (show ¬ k = 10 by omega), if_neg (show ¬ k = 11 by omega), if_neg (show ¬ k = 12 by omega), if_neg (show ¬ k = 13 by omega), if_neg (show ¬ k = 14 by omega), if_neg (show ¬ k = 15 by omega)]
  by_cases h16 : k = 16
  · simp [h16]
  by_cases h17 : k = 17
  · simp [h17]
  by_cases h18 : k = 18
  · simp [h18]
  by_cases h19 : k = 19
  · simp [h19]
  by_cases h20 : k = 20
  · simp [h20]
  by_cases h21 : k = 21
  · simp [h21]
  by_cases h22 : k = 22
  · by_cases hx : x = 0
    · simp [h22, hx]
    · have hb : (x != 0) = true := by simpa using hx
      simp [h22, hx, hb]
  by_cases h23 : k = 23
  · by_cases hx : x = 0
    · simp [h23, hx]
    · have hb : (x != 0) = true := by simpa using hx
      simp [h23, hx, hb]
  simp [*]

theorem apply_eq (n : Nat) (k x y : Int) : word_Apply.f (n + 1) k x y = some (ap k x y) := by
  unfold word_Apply.f
  simp only [word_Apply.j0]
  by_cases h6 : k = 6
  · simp [h6, ap]
  by_cases h7 : k = 7
  · simp [h7, ap]
  by_cases h8 : k = 8
  · simp [h8, ap]
  by_cases h9 : k = 9
  · by_cases hy : y = 0 <;> simp [h9, hy, ap]
  by_cases h10 : k = 10
  · by_cases hy : y = 0 <;> simp [h10, hy, ap]
  by_cases h11 : k = 11
  · simp [h11, ap]
  by_cases h12 : k = 12
  · simp [h12, ap]
  by_cases h13 : k = 13
  · simp [h13, ap]
  by_cases h14 : k = 14
  · simp [h14, ap, cnt]
  by_cases h15 : k = 15
  · simp [h15, ap, cnt]
  have := compare_eq k x y (by omega)
  simp only [if_neg h6, if_neg h7, if_neg h8, if_neg h9, if_neg h10, if_neg h11, if_neg h12, if_neg h13, if_neg h14, if_neg h15, beq_iff_eq]
  exact this

theorem awake_eq (n : Nat) : ontimelaw03_awake.f (n + 1) = some true := by
  unfold ontimelaw03_awake.f
  simp only [apply_eq, Option.bind_some]
  decide +kernel


theorem op_eq (n : Nat) (k x y : Int) : ontimelaw03_op.f (n + 1) k x y = some (ap k x y).1 := by
  unfold ontimelaw03_op.f
  rw [apply_eq]; rfl

theorem not_eq (x : Int) : ontimelaw03_not.f x = some (tr (x == 0)) := by
  unfold ontimelaw03_not.f word_Unary.f
  simp [truth_eq]

theorem op_calls (k x y r : Int) (w : World) (h : (ap k x y).1 = r) :
    Calls Try.prog 14 #[.int .u8 k, .int .i32 x, .int .i32 y] w fun e w' => e = .returned (.int .i32 r) ∧ Drawn0 w w' :=
  ontimelaw03_op.calls 1 k x y r w (by rw [op_eq, h])

theorem awake_calls (w : World) : Calls Try.prog 13 #[] w fun e w' => e = .returned (.bool true) ∧ Drawn0 w w' :=
  ontimelaw03_awake.calls 1 true w (awake_eq 0)

theorem not_calls (x r : Int) (w : World) (h : tr (x == 0) = r) : Calls Try.prog 20 #[.int .i32 x] w fun e w' => e = .returned (.int .i32 r) ∧ Drawn0 w w' :=
  ontimelaw03_not.calls x r w (by rw [not_eq, h])

set_option maxRecDepth 100000 in
theorem both (x y : Int) (hx : ¬ x = 0) (hy : ¬ y = 0) (w : World) :
    Calls Try.prog 10 #[.int .i32 x, .int .i32 y] w fun e w' => e = .returned (.bool true) ∧ Drawn0 w w' := by
  have b0 : (ap 22 x y).1 = 1 := by rw [ap22]; simp [hx, hy, tr]
  have b1 : (ap 23 x y).1 = 1 := by rw [ap23]; simp [hx, tr]
  have b2 : (ap 8 1 1).1 = 1 := by decide +kernel
  have b3 : (ap 8 0 0).1 = 0 := by decide +kernel
  have b4 : (ap 23 0 0).1 = 0 := by decide +kernel
  have b5 : (ap 22 1 1).1 = 1 := by decide +kernel
  have n0 : tr (x == 0) = 0 := by simp [hx, tr]
  have n1 : tr (y == 0) = 0 := by simp [hy, tr]
  have n2 : tr ((0 : Int) == 0) = 1 := by decide
  have n3 : tr ((1 : Int) == 0) = 0 := by decide
  have c2 : (x != 0) = true := by simp [hx]
  clear hx hy
  have B0 := Lib.hid b0; clear b0
  have B1 := Lib.hid b1; clear b1
  have B2 := Lib.hid b2; clear b2
  have B3 := Lib.hid b3; clear b3
  have B4 := Lib.hid b4; clear b4
  have B5 := Lib.hid b5; clear b5
  have N0 := Lib.hid n0; clear n0
  have N1 := Lib.hid n1; clear n1
  have N2 := Lib.hid n2; clear n2
  have N3 := Lib.hid n3; clear n3
  go_enter Try.func10, Try.ntmps10
  go_wp2_with (first | (go_at_call 14; ((with_reducible refine (op_calls 22 x y 1 _ B0.out).mono ?_); rintro e w' ⟨rfl, ⟨nd, rfl⟩⟩)) | (go_at_call 14; ((with_reducible refine (op_calls 23 x y 1 _ B1.out).mono ?_); rintro e w' ⟨rfl, ⟨nd, rfl⟩⟩)) | (go_at_call 14; ((with_reducible refine (op_calls 8 1 1 1 _ B2.out).mono ?_); rintro e w' ⟨rfl, ⟨nd, rfl⟩⟩)) | (go_at_call 14; ((with_reducible refine (op_calls 8 0 0 0 _ B3.out).mono ?_); rintro e w' ⟨rfl, ⟨nd, rfl⟩⟩)) | (go_at_call 14; ((with_reducible refine (op_calls 23 0 0 0 _ B4.out).mono ?_); rintro e w' ⟨rfl, ⟨nd, rfl⟩⟩)) | (go_at_call 14; ((with_reducible refine (op_calls 22 1 1 1 _ B5.out).mono ?_); rintro e w' ⟨rfl, ⟨nd, rfl⟩⟩)) | (go_at_call 20; ((with_reducible refine (not_calls x 0 _ N0.out).mono ?_); rintro e w' ⟨rfl, ⟨nd, rfl⟩⟩)) | (go_at_call 20; ((with_reducible refine (not_calls y 0 _ N1.out).mono ?_); rintro e w' ⟨rfl, ⟨nd, rfl⟩⟩)) | (go_at_call 20; ((with_reducible refine (not_calls 0 1 _ N2.out).mono ?_); rintro e w' ⟨rfl, ⟨nd, rfl⟩⟩)) | (go_at_call 20; ((with_reducible refine (not_calls 1 0 _ N3.out).mono ?_); rintro e w' ⟨rfl, ⟨nd, rfl⟩⟩)) | (go_at_call 13; ((with_reducible refine (awake_calls _).mono ?_); rintro e w' ⟨rfl, ⟨nd, rfl⟩⟩)))
  go_ret
  exact ⟨rfl, by repeat (first | exact Drawn0.refl _ | apply Drawn0.step)⟩

set_option maxRecDepth 100000 in
theorem left (x y : Int) (hx : ¬ x = 0) (hy : y = 0) (w : World) :
    Calls Try.prog 10 #[.int .i32 x, .int .i32 y] w fun e w' => e = .returned (.bool true) ∧ Drawn0 w w' := by
  have b0 : (ap 22 x y).1 = 0 := by rw [ap22]; simp [hx, hy, tr]
  have b1 : (ap 23 x y).1 = 1 := by rw [ap23]; simp [hx, tr]
  have b2 : (ap 8 1 0).1 = 0 := by decide +kernel
  have b3 : (ap 8 0 1).1 = 0 := by decide +kernel
  have b4 : (ap 23 0 1).1 = 1 := by decide +kernel
  have b5 : (ap 22 1 0).1 = 0 := by decide +kernel
  have n0 : tr (x == 0) = 0 := by simp [hx, tr]
  have n1 : tr (y == 0) = 1 := by simp [hy, tr]
  have n2 : tr ((0 : Int) == 0) = 1 := by decide
  have n3 : tr ((1 : Int) == 0) = 0 := by decide
  have c2 : (x != 0) = true := by simp [hx]
  clear hx hy
  have B0 := Lib.hid b0; clear b0
  have B1 := Lib.hid b1; clear b1
  have B2 := Lib.hid b2; clear b2
  have B3 := Lib.hid b3; clear b3
  have B4 := Lib.hid b4; clear b4
  have B5 := Lib.hid b5; clear b5
  have N0 := Lib.hid n0; clear n0
  have N1 := Lib.hid n1; clear n1
  have N2 := Lib.hid n2; clear n2
  have N3 := Lib.hid n3; clear n3
  go_enter Try.func10, Try.ntmps10
  go_wp2_with (first | (go_at_call 14; ((with_reducible refine (op_calls 22 x y 0 _ B0.out).mono ?_); rintro e w' ⟨rfl, ⟨nd, rfl⟩⟩)) | (go_at_call 14; ((with_reducible refine (op_calls 23 x y 1 _ B1.out).mono ?_); rintro e w' ⟨rfl, ⟨nd, rfl⟩⟩)) | (go_at_call 14; ((with_reducible refine (op_calls 8 1 0 0 _ B2.out).mono ?_); rintro e w' ⟨rfl, ⟨nd, rfl⟩⟩)) | (go_at_call 14; ((with_reducible refine (op_calls 8 0 1 0 _ B3.out).mono ?_); rintro e w' ⟨rfl, ⟨nd, rfl⟩⟩)) | (go_at_call 14; ((with_reducible refine (op_calls 23 0 1 1 _ B4.out).mono ?_); rintro e w' ⟨rfl, ⟨nd, rfl⟩⟩)) | (go_at_call 14; ((with_reducible refine (op_calls 22 1 0 0 _ B5.out).mono ?_); rintro e w' ⟨rfl, ⟨nd, rfl⟩⟩)) | (go_at_call 20; ((with_reducible refine (not_calls x 0 _ N0.out).mono ?_); rintro e w' ⟨rfl, ⟨nd, rfl⟩⟩)) | (go_at_call 20; ((with_reducible refine (not_calls y 1 _ N1.out).mono ?_); rintro e w' ⟨rfl, ⟨nd, rfl⟩⟩)) | (go_at_call 20; ((with_reducible refine (not_calls 0 1 _ N2.out).mono ?_); rintro e w' ⟨rfl, ⟨nd, rfl⟩⟩)) | (go_at_call 20; ((with_reducible refine (not_calls 1 0 _ N3.out).mono ?_); rintro e w' ⟨rfl, ⟨nd, rfl⟩⟩)) | (go_at_call 13; ((with_reducible refine (awake_calls _).mono ?_); rintro e w' ⟨rfl, ⟨nd, rfl⟩⟩)))
  go_ret
  exact ⟨rfl, by repeat (first | exact Drawn0.refl _ | apply Drawn0.step)⟩

set_option maxRecDepth 100000 in
theorem right (x y : Int) (hx : x = 0) (hy : ¬ y = 0) (w : World) :
    Calls Try.prog 10 #[.int .i32 x, .int .i32 y] w fun e w' => e = .returned (.bool true) ∧ Drawn0 w w' := by
  have b0 : (ap 22 x y).1 = 0 := by rw [ap22]; simp [hx, tr]
  have b1 : (ap 23 x y).1 = 1 := by rw [ap23]; simp [hx, hy, tr]
  have b2 : (ap 8 0 1).1 = 0 := by decide +kernel
  have b3 : (ap 8 1 0).1 = 0 := by decide +kernel
  have b4 : (ap 23 1 0).1 = 1 := by decide +kernel
  have b5 : (ap 22 0 1).1 = 0 := by decide +kernel
  have n0 : tr (x == 0) = 1 := by simp [hx, tr]
  have n1 : tr (y == 0) = 0 := by simp [hy, tr]
  have n2 : tr ((0 : Int) == 0) = 1 := by decide
  have n3 : tr ((1 : Int) == 0) = 0 := by decide
  have c2 : (x != 0) = false := by simp [hx]
  clear hx hy
  have B0 := Lib.hid b0; clear b0
  have B1 := Lib.hid b1; clear b1
  have B2 := Lib.hid b2; clear b2
  have B3 := Lib.hid b3; clear b3
  have B4 := Lib.hid b4; clear b4
  have B5 := Lib.hid b5; clear b5
  have N0 := Lib.hid n0; clear n0
  have N1 := Lib.hid n1; clear n1
  have N2 := Lib.hid n2; clear n2
  have N3 := Lib.hid n3; clear n3
  go_enter Try.func10, Try.ntmps10
  go_wp2_with (first | (go_at_call 14; ((with_reducible refine (op_calls 22 x y 0 _ B0.out).mono ?_); rintro e w' ⟨rfl, ⟨nd, rfl⟩⟩)) | (go_at_call 14; ((with_reducible refine (op_calls 23 x y 1 _ B1.out).mono ?_); rintro e w' ⟨rfl, ⟨nd, rfl⟩⟩)) | (go_at_call 14; ((with_reducible refine (op_calls 8 0 1 0 _ B2.out).mono ?_); rintro e w' ⟨rfl, ⟨nd, rfl⟩⟩)) | (go_at_call 14; ((with_reducible refine (op_calls 8 1 0 0 _ B3.out).mono ?_); rintro e w' ⟨rfl, ⟨nd, rfl⟩⟩)) | (go_at_call 14; ((with_reducible refine (op_calls 23 1 0 1 _ B4.out).mono ?_); rintro e w' ⟨rfl, ⟨nd, rfl⟩⟩)) | (go_at_call 14; ((with_reducible refine (op_calls 22 0 1 0 _ B5.out).mono ?_); rintro e w' ⟨rfl, ⟨nd, rfl⟩⟩)) | (go_at_call 20; ((with_reducible refine (not_calls x 1 _ N0.out).mono ?_); rintro e w' ⟨rfl, ⟨nd, rfl⟩⟩)) | (go_at_call 20; ((with_reducible refine (not_calls y 0 _ N1.out).mono ?_); rintro e w' ⟨rfl, ⟨nd, rfl⟩⟩)) | (go_at_call 20; ((with_reducible refine (not_calls 0 1 _ N2.out).mono ?_); rintro e w' ⟨rfl, ⟨nd, rfl⟩⟩)) | (go_at_call 20; ((with_reducible refine (not_calls 1 0 _ N3.out).mono ?_); rintro e w' ⟨rfl, ⟨nd, rfl⟩⟩)) | (go_at_call 13; ((with_reducible refine (awake_calls _).mono ?_); rintro e w' ⟨rfl, ⟨nd, rfl⟩⟩)))
  go_ret
  exact ⟨rfl, by repeat (first | exact Drawn0.refl _ | apply Drawn0.step)⟩

set_option maxRecDepth 100000 in
theorem none (x y : Int) (hx : x = 0) (hy : y = 0) (w : World) :
    Calls Try.prog 10 #[.int .i32 x, .int .i32 y] w fun e w' => e = .returned (.bool true) ∧ Drawn0 w w' := by
  have b0 : (ap 22 x y).1 = 0 := by rw [ap22]; simp [hx, tr]
  have b1 : (ap 23 x y).1 = 0 := by rw [ap23]; simp [hx, hy, tr]
  have b2 : (ap 8 0 0).1 = 0 := by decide +kernel
  have b3 : (ap 8 1 1).1 = 1 := by decide +kernel
  have b4 : (ap 23 1 1).1 = 1 := by decide +kernel
  have b5 : (ap 22 0 0).1 = 0 := by decide +kernel
  have n0 : tr (x == 0) = 1 := by simp [hx, tr]
  have n1 : tr (y == 0) = 1 := by simp [hy, tr]
  have n2 : tr ((0 : Int) == 0) = 1 := by decide
  have n3 : tr ((1 : Int) == 0) = 0 := by decide
  have c2 : (x != 0) = false := by simp [hx]
  clear hx hy
  have B0 := Lib.hid b0; clear b0
  have B1 := Lib.hid b1; clear b1
  have B2 := Lib.hid b2; clear b2
  have B3 := Lib.hid b3; clear b3
  have B4 := Lib.hid b4; clear b4
  have B5 := Lib.hid b5; clear b5
  have N0 := Lib.hid n0; clear n0
  have N1 := Lib.hid n1; clear n1
  have N2 := Lib.hid n2; clear n2
  have N3 := Lib.hid n3; clear n3
  go_enter Try.func10, Try.ntmps10
  go_wp2_with (first | (go_at_call 14; ((with_reducible refine (op_calls 22 x y 0 _ B0.out).mono ?_); rintro e w' ⟨rfl, ⟨nd, rfl⟩⟩)) | (go_at_call 14; ((with_reducible refine (op_calls 23 x y 0 _ B1.out).mono ?_); rintro e w' ⟨rfl, ⟨nd, rfl⟩⟩)) | (go_at_call 14; ((with_reducible refine (op_calls 8 0 0 0 _ B2.out).mono ?_); rintro e w' ⟨rfl, ⟨nd, rfl⟩⟩)) | (go_at_call 14; ((with_reducible refine (op_calls 8 1 1 1 _ B3.out).mono ?_); rintro e w' ⟨rfl, ⟨nd, rfl⟩⟩)) | (go_at_call 14; ((with_reducible refine (op_calls 23 1 1 1 _ B4.out).mono ?_); rintro e w' ⟨rfl, ⟨nd, rfl⟩⟩)) | (go_at_call 14; ((with_reducible refine (op_calls 22 0 0 0 _ B5.out).mono ?_); rintro e w' ⟨rfl, ⟨nd, rfl⟩⟩)) | (go_at_call 20; ((with_reducible refine (not_calls x 1 _ N0.out).mono ?_); rintro e w' ⟨rfl, ⟨nd, rfl⟩⟩)) | (go_at_call 20; ((with_reducible refine (not_calls y 1 _ N1.out).mono ?_); rintro e w' ⟨rfl, ⟨nd, rfl⟩⟩)) | (go_at_call 20; ((with_reducible refine (not_calls 0 1 _ N2.out).mono ?_); rintro e w' ⟨rfl, ⟨nd, rfl⟩⟩)) | (go_at_call 20; ((with_reducible refine (not_calls 1 0 _ N3.out).mono ?_); rintro e w' ⟨rfl, ⟨nd, rfl⟩⟩)) | (go_at_call 13; ((with_reducible refine (awake_calls _).mono ?_); rintro e w' ⟨rfl, ⟨nd, rfl⟩⟩)))
  go_ret
  exact ⟨rfl, by repeat (first | exact Drawn0.refl _ | apply Drawn0.step)⟩

theorem WordLogic_calls (x y : Int) (w : World) :
    Calls Try.prog 10 #[.int .i32 x, .int .i32 y] w fun e w' => e = .returned (.bool true) ∧ Drawn0 w w' := by
  by_cases hx : x = 0
  · by_cases hy : y = 0
    · exact none x y hx hy w
    · exact right x y hx hy w
  · by_cases hy : y = 0
    · exact left x y hx hy w
    · exact both x y hx hy w

end Go.Proofs.Ytjddfmbdollcnaa.WalkLogic
