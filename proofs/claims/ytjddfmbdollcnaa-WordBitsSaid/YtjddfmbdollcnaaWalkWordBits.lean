/- The walk of the law WordBits: it returns true. Conditions: none beyond the kinds of the arguments. -/
import Derived.Test.YtjddfmbdollcnaaPWordRingx2
import Derived.Test.YtjddfmbdollcnaaPlain
import Derived.Lib.Hide
namespace Go.Proofs.Ytjddfmbdollcnaa.WalkBits
open Go.RowKit Go.Proofs.Ytjddfmbdollcnaa.PWordRing Go.Proofs.YtjddfmbdollcnaaW.PrintWords Go.Proofs.YtjddfmbdollcnaaW.PrintLast Go.Proofs.YtjddfmbdollcnaaW.PrintMore
open Go.Proofs.YtjddfmbdollcnaaPlain
set_option linter.unusedSimpArgs false
set_option linter.unusedVariables false

theorem truth_eq (b : Bool) : word_truth.f b = some (tr b) := by
  unfold word_truth.f tr; split <;> rfl

theorem compare_eq (k x y : Int) (hk : k < 6 ∨ 15 < k) :
    (word_compare.f k x y).bind (fun bt => if bt.2 = true then some (bt.1, (0 : Int)) else some (0, 1)) = some (ap k x y) := by
  unfold word_compare.f ap
  simp only [truth_eq, Option.bind_some]
  rw [if_neg (show ¬ k = 6 by omega), if_neg (show ¬ k = 7 by omega), if_neg (show ¬ k = 8 by omega), if_neg (show ¬ k = 9 by omega), if_neg (show ¬ k = 10 by omega), if_neg (show ¬ k = 11 by omega), if_neg (show ¬ k = 12 by omega), if_neg (show ¬ k = 13 by omega), if_neg (show ¬ k = 14 by omega), if_neg (show ¬ k = 15 by omega)]
  by_cases h16 : k = 16
  · simp [h16]
  by_cases h17 : k = 17
  · simp [h17]
  by_cases h18 : k = 18
  · simp [h18]
  by_cases h19 : k = 19
  · simp [h19]
  by_cases h20 : k = 20
  · simp [h20]
  by_cases h21 : k = 21
  · simp [h21]
  by_cases h22 : k = 22
  · by_cases hx : x = 0
    · simp [h22, hx]
    · have hb : (x != 0) = true := by simpa using hx
      simp [h22, hx, hb]
  by_cases h23 : k = 23
  · by_cases hx : x = 0
    · simp [h23, hx]
    · have hb : (x != 0) = true := by simpa using hx
      simp [h23, hx, hb]
  simp [*]

theorem apply_eq (n : Nat) (k x y : Int) : word_Apply.f (n + 1) k x y = some (ap k x y) := by
  unfold word_Apply.f
  simp only [word_Apply.j0]
  by_cases h6 : k = 6
  · simp [h6, ap]
  by_cases h7 : k = 7
  · simp [h7, ap]
  by_cases h8 : k = 8
  · simp [h8, ap]
  by_cases h9 : k = 9
  · by_cases hy : y = 0 <;> simp [h9, hy, ap]
  by_cases h10 : k = 10
  · by_cases hy : y = 0 <;> simp [h10, hy, ap]
  by_cases h11 : k = 11
  · simp [h11, ap]
  by_cases h12 : k = 12
  · simp [h12, ap]
  by_cases h13 : k = 13
  · simp [h13, ap]
  by_cases h14 : k = 14
  · simp [h14, ap, cnt]
  by_cases h15 : k = 15
  · simp [h15, ap, cnt]
  have := compare_eq k x y (by omega)
  simp only [if_neg h6, if_neg h7, if_neg h8, if_neg h9, if_neg h10, if_neg h11, if_neg h12, if_neg h13, if_neg h14, if_neg h15, beq_iff_eq]
  exact this

theorem awake_eq (n : Nat) : ontimelaw03_awake.f (n + 1) = some true := by
  unfold ontimelaw03_awake.f
  simp only [apply_eq, Option.bind_some]
  decide +kernel


theorem op_eq (n : Nat) (k x y : Int) : ontimelaw03_op.f (n + 1) k x y = some (ap k x y).1 := by
  unfold ontimelaw03_op.f
  rw [apply_eq]; rfl

theorem neg_eq (x : Int) : ontimelaw03_neg.f x = some (wrap32 (-x)) := by
  unfold ontimelaw03_neg.f word_Unary.f
  simp

theorem op_calls (k x y r : Int) (w : World) (h : (ap k x y).1 = r) :
    Calls Try.prog 14 #[.int .u8 k, .int .i32 x, .int .i32 y] w fun e w' => e = .returned (.int .i32 r) ∧ Drawn0 w w' :=
  ontimelaw03_op.calls 1 k x y r w (by rw [op_eq, h])

theorem awake_calls (w : World) : Calls Try.prog 13 #[] w fun e w' => e = .returned (.bool true) ∧ Drawn0 w w' :=
  ontimelaw03_awake.calls 1 true w (awake_eq 0)

theorem bv_split (x y : BitVec 32) : (x &&& y) + (x &&& ~~~y) = x := by
  rw [BitVec.add_eq_or_of_and_eq_zero]
  · ext i hi
    simp
    cases x[i] <;> cases y[i] <;> rfl
  · ext i hi
    simp
    cases x[i] <;> cases y[i] <;> simp

theorem bv_or (x y : BitVec 32) : (x ||| y) = y + (x &&& ~~~y) := by
  rw [BitVec.add_eq_or_of_and_eq_zero]
  · ext i hi
    simp
    cases x[i] <;> cases y[i] <;> rfl
  · ext i hi
    simp
    cases x[i] <;> cases y[i] <;> simp

theorem bv_or2 (x y : BitVec 32) : (x ||| y) = (x ^^^ y) + (x &&& y) := by
  rw [BitVec.add_eq_or_of_and_eq_zero]
  · ext i hi
    simp
    cases x[i] <;> cases y[i] <;> rfl
  · ext i hi
    simp
    cases x[i] <;> cases y[i] <;> simp

theorem bv_sum (x y : BitVec 32) : (x &&& y) + (x ||| y) = x + y := by
  rw [bv_or, BitVec.add_comm y, ← BitVec.add_assoc, bv_split]

theorem bv_diff (x y : BitVec 32) : (x ||| y) - (x &&& y) = x ^^^ y := by
  rw [bv_or2, BitVec.add_sub_cancel]

theorem bv_back (x y : BitVec 32) : (x ^^^ y) ^^^ y = x := by
  rw [BitVec.xor_assoc, BitVec.xor_self, BitVec.xor_zero]

theorem bv_absorb (x y : BitVec 32) : x &&& (x ||| y) = x := by
  ext i hi
  simp
  cases x[i] <;> simp

theorem bv_flip (x : BitVec 32) : -x - 1#32 = ~~~x := (BitVec.not_eq_neg_add x).symm
theorem neg_calls (x r : Int) (w : World) (h : wrap32 (-x) = r) :
    Calls Try.prog 18 #[.int .i32 x] w fun e w' => e = .returned (.int .i32 r) ∧ Drawn0 w w' :=
  ontimelaw03_neg.calls x r w (by rw [neg_eq, h])

theorem flip_calls (n m r : Int) (w : World) (h1 : wrap32 (-n) = m) (h2 : (ap 7 m 1).1 = r) :
    Calls Try.prog 19 #[.int .i32 n] w fun e w' => e = .returned (.int .i32 r) ∧ Drawn0 w w' := by
  have H1 := Lib.hid h1
  have H2 := Lib.hid h2
  clear h1 h2
  go_enter Try.func19, Try.ntmps19
  go_wp2_with (first | (go_at_call 18; ((with_reducible refine (neg_calls n m _ H1.out).mono ?_); rintro e w' ⟨rfl, ⟨nd, rfl⟩⟩)) | (go_at_call 14; ((with_reducible refine (op_calls 7 m 1 r _ H2.out).mono ?_); rintro e w' ⟨rfl, ⟨nd, rfl⟩⟩)))
  go_ret
  exact ⟨rfl, by repeat (first | exact Drawn0.refl _ | apply Drawn0.step)⟩

theorem flip_of (n : Int) (w : World) :
    Calls Try.prog 19 #[.int .i32 n] w fun e w' => e = .returned (.int .i32 (~~~BitVec.ofInt 32 n).toInt) ∧ Drawn0 w w' :=
  flip_calls n _ _ w rfl (by rw [ap7, sub_bv, neg_bv, BitVec.ofInt_toInt, show BitVec.ofInt 32 1 = 1#32 from rfl, bv_flip])

set_option maxRecDepth 100000 in
theorem bits_walk (x y a o e s fa fx fy : Int) (ha : (ap 11 x y).1 = a) (ho : (ap 12 x y).1 = o) (he : (ap 13 x y).1 = e)
    (h1 : (ap 6 a o).1 = s) (h2 : (ap 6 x y).1 = s) (h3 : (ap 7 o a).1 = e) (h4 : (ap 12 fx fy).1 = fa) (h5 : (ap 13 e y).1 = x) (h6 : (ap 11 x o).1 = x)
    (f1 : ∀ w, Calls Try.prog 19 #[.int .i32 a] w fun e w' => e = .returned (.int .i32 fa) ∧ Drawn0 w w')
    (f2 : ∀ w, Calls Try.prog 19 #[.int .i32 x] w fun e w' => e = .returned (.int .i32 fx) ∧ Drawn0 w w')
    (f3 : ∀ w, Calls Try.prog 19 #[.int .i32 y] w fun e w' => e = .returned (.int .i32 fy) ∧ Drawn0 w w') (w : World) :
    Calls Try.prog 8 #[.int .i32 x, .int .i32 y] w fun e w' => e = .returned (.bool true) ∧ Drawn0 w w' := by
  have HA := Lib.hid ha
  have HO := Lib.hid ho
  have HE := Lib.hid he
  have H1 := Lib.hid h1
  have H2 := Lib.hid h2
  have H3 := Lib.hid h3
  have H4 := Lib.hid h4
  have H5 := Lib.hid h5
  have H6 := Lib.hid h6
  have F1 := Lib.hid f1
  have F2 := Lib.hid f2
  have F3 := Lib.hid f3
  clear ha ho he h1 h2 h3 h4 h5 h6 f1 f2 f3
  go_enter Try.func8, Try.ntmps8
  go_wp2_with (first | (go_at_call 14; ((with_reducible refine (op_calls 11 x y a _ HA.out).mono ?_); rintro e w' ⟨rfl, ⟨nd, rfl⟩⟩)) | (go_at_call 14; ((with_reducible refine (op_calls 12 x y o _ HO.out).mono ?_); rintro e w' ⟨rfl, ⟨nd, rfl⟩⟩)) | (go_at_call 14; ((with_reducible refine (op_calls 13 x y e _ HE.out).mono ?_); rintro e w' ⟨rfl, ⟨nd, rfl⟩⟩)) | (go_at_call 14; ((with_reducible refine (op_calls 6 a o s _ H1.out).mono ?_); rintro e w' ⟨rfl, ⟨nd, rfl⟩⟩)) | (go_at_call 14; ((with_reducible refine (op_calls 6 x y s _ H2.out).mono ?_); rintro e w' ⟨rfl, ⟨nd, rfl⟩⟩)) | (go_at_call 14; ((with_reducible refine (op_calls 7 o a e _ H3.out).mono ?_); rintro e w' ⟨rfl, ⟨nd, rfl⟩⟩)) | (go_at_call 14; ((with_reducible refine (op_calls 12 fx fy fa _ H4.out).mono ?_); rintro e w' ⟨rfl, ⟨nd, rfl⟩⟩)) | (go_at_call 14; ((with_reducible refine (op_calls 13 e y x _ H5.out).mono ?_); rintro e w' ⟨rfl, ⟨nd, rfl⟩⟩)) | (go_at_call 14; ((with_reducible refine (op_calls 11 x o x _ H6.out).mono ?_); rintro e w' ⟨rfl, ⟨nd, rfl⟩⟩)) | (go_at_call 19; ((with_reducible refine (F1.out _).mono ?_); rintro e w' ⟨rfl, ⟨nd, rfl⟩⟩)) | (go_at_call 19; ((with_reducible refine (F2.out _).mono ?_); rintro e w' ⟨rfl, ⟨nd, rfl⟩⟩)) | (go_at_call 19; ((with_reducible refine (F3.out _).mono ?_); rintro e w' ⟨rfl, ⟨nd, rfl⟩⟩)) | (go_at_call 13; ((with_reducible refine (awake_calls _).mono ?_); rintro e w' ⟨rfl, ⟨nd, rfl⟩⟩)))
  go_ret
  exact ⟨by first | rfl | (simp; done), by repeat (first | exact Drawn0.refl _ | apply Drawn0.step)⟩

theorem WordBits_calls (x y : Int) (hx0 : -2147483648 ≤ x) (hx1 : x ≤ 2147483647) (w : World) :
    Calls Try.prog 8 #[.int .i32 x, .int .i32 y] w fun e w' => e = .returned (.bool true) ∧ Drawn0 w w' := by
  refine bits_walk x y _ _ _ _ _ _ _ rfl rfl rfl ?_ rfl ?_ ?_ ?_ ?_ (fun w => flip_of _ w) (fun w => flip_of _ w) (fun w => flip_of _ w) w
  · simp only [ap6, ap11, ap12, add_bv, and_bv, or_bv, BitVec.ofInt_toInt, bv_sum]
  · simp only [ap7, ap11, ap12, ap13, sub_bv, and_bv, or_bv, xor_bv, BitVec.ofInt_toInt, bv_diff]
  · simp only [ap11, ap12, and_bv, or_bv, BitVec.ofInt_toInt, BitVec.not_and]
  · simp only [ap13, xor_bv, BitVec.ofInt_toInt, bv_back, bv_id hx0 hx1]
  · simp only [ap11, ap12, and_bv, or_bv, BitVec.ofInt_toInt, bv_absorb, bv_id hx0 hx1]

end Go.Proofs.Ytjddfmbdollcnaa.WalkBits
