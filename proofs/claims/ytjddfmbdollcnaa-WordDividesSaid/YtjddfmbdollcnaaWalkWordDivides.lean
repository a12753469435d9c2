/- The walk of the law WordDivides: it returns true. Conditions: none beyond the kinds of the arguments. -/
import Derived.Test.YtjddfmbdollcnaaPWordDividesx1
import Derived.Test.YtjddfmbdollcnaaPlain
import Derived.Lib.Hide
namespace Go.Proofs.Ytjddfmbdollcnaa.WalkDivides
open Go.RowKit Go.Proofs.Ytjddfmbdollcnaa.PWordDivides Go.Proofs.YtjddfmbdollcnaaW.PrintWords Go.Proofs.YtjddfmbdollcnaaW.PrintLast Go.Proofs.YtjddfmbdollcnaaW.PrintMore
open Go.Proofs.YtjddfmbdollcnaaPlain
set_option linter.unusedSimpArgs false
set_option linter.unusedVariables false

theorem truth_eq (b : Bool) : word_truth.f b = some (tr b) := by
  unfold word_truth.f tr; split <;> rfl

theorem compare_eq (k x y : Int) (hk : k < 6 ∨ 15 < k) :
    (word_compare.f k x y).bind (fun bt => if bt.2 = true then some (bt.1, (0 : Int)) else some (0, 1)) = some (ap k x y) := by
  unfold word_compare.f ap
  simp only [truth_eq, Option.bind_some]
  rw [if_neg (show ¬ k = 6 by omega), if_neg (show ¬ k = 7 by omega), if_neg (show ¬ k = 8 by omega), if_neg (show ¬ k = 9 by omega), if_neg (show ¬ k = 10 by omega), if_neg (show ¬ k = 11 by omega), if_neg (show ¬ k = 12 by omega), if_neg (show ¬ k = 13 by omega), if_neg (show ¬ k = 14 by omega), if_neg (show ¬ k = 15 by omega)]
  by_cases h16 : k = 16
  · simp [h16]
  by_cases h17 : k = 17
  · simp [h17]
  by_cases h18 : k = 18
  · simp [h18]
  by_cases h19 : k = 19
  · simp [h19]
  by_cases h20 : k = 20
  · simp [h20]
  by_cases h21 : k = 21
  · simp [h21]
  by_cases h22 : k = 22
  · by_cases hx : x = 0
    · simp [h22, hx]
    · have hb : (x != 0) = true := by simpa using hx
      simp [h22, hx, hb]
  by_cases h23 : k = 23
  · by_cases hx : x = 0
    · simp [h23, hx]
    · have hb : (x != 0) = true := by simpa using hx
      simp [h23, hx, hb]
  simp [*]

theorem apply_eq (n : Nat) (k x y : Int) : word_Apply.f (n + 1) k x y = some (ap k x y) := by
  unfold word_Apply.f
  simp only [word_Apply.j0]
  by_cases h6 : k = 6
  · simp [h6, ap]
  by_cases h7 : k = 7
  · simp [h7, ap]
  by_cases h8 : k = 8
  · simp [h8, ap]
  by_cases h9 : k = 9
  · by_cases hy : y = 0 <;> simp [h9, hy, ap]
  by_cases h10 : k = 10
  · by_cases hy : y = 0 <;> simp [h10, hy, ap]
  by_cases h11 : k = 11
  · simp [h11, ap]
  by_cases h12 : k = 12
  · simp [h12, ap]
  by_cases h13 : k = 13
  · simp [h13, ap]
  by_cases h14 : k = 14
  · simp [h14, ap, cnt]
  by_cases h15 : k = 15
  · simp [h15, ap, cnt]
  have := compare_eq k x y (by omega)
  simp only [if_neg h6, if_neg h7, if_neg h8, if_neg h9, if_neg h10, if_neg h11, if_neg h12, if_neg h13, if_neg h14, if_neg h15, beq_iff_eq]
  exact this

theorem awake_eq (n : Nat) : ontimelaw03_awake.f (n + 1) = some true := by
  unfold ontimelaw03_awake.f
  simp only [apply_eq, Option.bind_some]
  decide +kernel


theorem op_eq (n : Nat) (k x y : Int) : ontimelaw03_op.f (n + 1) k x y = some (ap k x y).1 := by
  unfold ontimelaw03_op.f
  rw [apply_eq]; rfl

theorem op_calls (k x y r : Int) (w : World) (h : (ap k x y).1 = r) :
    Calls Try.prog 14 #[.int .u8 k, .int .i32 x, .int .i32 y] w fun e w' => e = .returned (.int .i32 r) ∧ Drawn0 w w' :=
  ontimelaw03_op.calls 1 k x y r w (by rw [op_eq, h])

theorem awake_calls (w : World) : Calls Try.prog 13 #[] w fun e w' => e = .returned (.bool true) ∧ Drawn0 w w' :=
  ontimelaw03_awake.calls 1 true w (awake_eq 0)

theorem apply_calls (k x y r e : Int) (w : World) (h : ap k x y = (r, e)) :
    Calls Try.prog 11 #[.int .u8 k, .int .i32 x, .int .i32 y] w fun en w' => en = .returned (.tuple #[.int .i32 r, .int .i64 e]) ∧ Drawn0 w w' :=
  word_Apply.calls 1 k x y r e w (by rw [apply_eq, h])

attribute [local go_sem] max2_int max_two
theorem size_calls (n s : Int) (h0 : -2147483648 ≤ n) (h1 : n ≤ 2147483647) (h : (n < 0 ∧ s = -n) ∨ (0 ≤ n ∧ s = n)) (w : World) :
    Calls Try.prog 15 #[.int .i32 n] w fun e w' => e = .returned (.int .i64 s) ∧ Drawn0 w w' := by
  rcases h with ⟨hn, rfl⟩ | ⟨hn, rfl⟩
  · go_enter Try.func15, Try.ntmps15
    go_wp2
    go_ret
    exact ⟨by simp, by repeat (first | exact Drawn0.refl _ | apply Drawn0.step)⟩
  · go_enter Try.func15, Try.ntmps15
    go_wp2
    go_ret
    exact ⟨by simp, by repeat (first | exact Drawn0.refl _ | apply Drawn0.step)⟩

set_option maxRecDepth 100000 in
theorem zero (x : Int) (w : World) :
    Calls Try.prog 4 #[.int .i32 x, .int .i32 0] w fun e w' => e = .returned (.bool true) ∧ Drawn0 w w' := by
  go_enter Try.func4, Try.ntmps4
  go_wp2_with (first | (go_at_call 11; ((with_reducible refine (apply_calls 9 x 0 0 9 _ (ap9z x)).mono ?_); rintro e w' ⟨rfl, ⟨nd, rfl⟩⟩)) | (go_at_call 11; ((with_reducible refine (apply_calls 10 x 0 0 9 _ (ap10z x)).mono ?_); rintro e w' ⟨rfl, ⟨nd, rfl⟩⟩)) | (go_at_call 13; ((with_reducible refine (awake_calls _).mono ?_); rintro e w' ⟨rfl, ⟨nd, rfl⟩⟩)))
  go_ret
  exact ⟨by first | rfl | (simp; done) | (simp; omega) | (have k1 : ¬ x < 0 := (by omega); have k2 : ¬ y < 0 := (by omega); have k3 : ¬ q < 0 := (by omega); simp [k1, k2, k3]), by repeat (first | exact Drawn0.refl _ | apply Drawn0.step)⟩

set_option maxRecDepth 100000 in
theorem over_  (w : World) :
    Calls Try.prog 4 #[.int .i32 (-2147483648), .int .i32 (-1)] w fun e w' => e = .returned (.bool true) ∧ Drawn0 w w' := by
  have B0 := Lib.hid (show ap 9 (-2147483648) (-1) = (-2147483648, 0) by decide +kernel)
  have B1 := Lib.hid (show ap 10 (-2147483648) (-1) = (0, 0) by decide +kernel)
  have B2 := Lib.hid (show (ap 8 (-2147483648) (-1)).1 = -2147483648 by decide +kernel)
  have B3 := Lib.hid (show (ap 6 (-2147483648) 0).1 = -2147483648 by decide +kernel)
  go_enter Try.func4, Try.ntmps4
  go_wp2_with (first | (go_at_call 11; ((with_reducible refine (apply_calls 9 (-2147483648) (-1) (-2147483648) 0 _ B0.out).mono ?_); rintro e w' ⟨rfl, ⟨nd, rfl⟩⟩)) | (go_at_call 11; ((with_reducible refine (apply_calls 10 (-2147483648) (-1) 0 0 _ B1.out).mono ?_); rintro e w' ⟨rfl, ⟨nd, rfl⟩⟩)) | (go_at_call 14; ((with_reducible refine (op_calls 8 (-2147483648) (-1) (-2147483648) _ B2.out).mono ?_); rintro e w' ⟨rfl, ⟨nd, rfl⟩⟩)) | (go_at_call 14; ((with_reducible refine (op_calls 6 (-2147483648) 0 (-2147483648) _ B3.out).mono ?_); rintro e w' ⟨rfl, ⟨nd, rfl⟩⟩)) | (go_at_call 15; ((with_reducible refine (size_calls 0 0 (by omega) (by omega) (by omega) _).mono ?_); rintro e w' ⟨rfl, ⟨nd, rfl⟩⟩)) | (go_at_call 15; ((with_reducible refine (size_calls (-1) 1 (by omega) (by omega) (by omega) _).mono ?_); rintro e w' ⟨rfl, ⟨nd, rfl⟩⟩)) | (go_at_call 13; ((with_reducible refine (awake_calls _).mono ?_); rintro e w' ⟨rfl, ⟨nd, rfl⟩⟩)))
  go_ret
  exact ⟨by first | rfl | (simp; done) | (simp; omega) | (have k1 : ¬ x < 0 := (by omega); have k2 : ¬ y < 0 := (by omega); have k3 : ¬ q < 0 := (by omega); simp [k1, k2, k3]), by repeat (first | exact Drawn0.refl _ | apply Drawn0.step)⟩

set_option maxRecDepth 100000 in
theorem c_neg_neg_11 (x y m rs ys : Int) (hq : ap 9 x y = (0, 0)) (hr : ap 10 x y = (0, 0)) (hm : (ap 8 0 y).1 = m) (ho : (ap 6 m 0).1 = x) (hx : x < 0) (hy : y < 0) (y0 : (y == 0) = false) (hs : ∀ w, Calls Try.prog 15 #[.int .i32 0] w fun e w' => e = .returned (.int .i64 rs) ∧ Drawn0 w w') (hs2 : ∀ w, Calls Try.prog 15 #[.int .i32 y] w fun e w' => e = .returned (.int .i64 ys) ∧ Drawn0 w w') (hlt : rs < ys) (w : World) :
    Calls Try.prog 4 #[.int .i32 x, .int .i32 y] w fun e w' => e = .returned (.bool true) ∧ Drawn0 w w' := by
  have HQ := Lib.hid hq
  have HR := Lib.hid hr
  have HM := Lib.hid hm
  have HO := Lib.hid ho
  have HS := Lib.hid hs
  have HT := Lib.hid hs2
  clear hq hr hm ho hs hs2
  go_enter Try.func4, Try.ntmps4
  go_wp2_with (first | (go_at_call 11; ((with_reducible refine (apply_calls 9 x y 0 0 _ HQ.out).mono ?_); rintro e w' ⟨rfl, ⟨nd, rfl⟩⟩)) | (go_at_call 11; ((with_reducible refine (apply_calls 10 x y 0 0 _ HR.out).mono ?_); rintro e w' ⟨rfl, ⟨nd, rfl⟩⟩)) | (go_at_call 14; ((with_reducible refine (op_calls 8 0 y m _ HM.out).mono ?_); rintro e w' ⟨rfl, ⟨nd, rfl⟩⟩)) | (go_at_call 14; ((with_reducible refine (op_calls 6 m 0 x _ HO.out).mono ?_); rintro e w' ⟨rfl, ⟨nd, rfl⟩⟩)) | (go_at_call 15; ((with_reducible refine (HS.out _).mono ?_); rintro e w' ⟨rfl, ⟨nd, rfl⟩⟩)) | (go_at_call 15; ((with_reducible refine (HT.out _).mono ?_); rintro e w' ⟨rfl, ⟨nd, rfl⟩⟩)) | (go_at_call 13; ((with_reducible refine (awake_calls _).mono ?_); rintro e w' ⟨rfl, ⟨nd, rfl⟩⟩)))
  go_ret
  exact ⟨by first | rfl | (simp; done) | (simp; omega) | (have k1 : ¬ x < 0 := (by omega); have k2 : ¬ y < 0 := (by omega); have k3 : ¬ q < 0 := (by omega); simp [k1, k2, k3]), by repeat (first | exact Drawn0.refl _ | apply Drawn0.step)⟩

set_option maxRecDepth 100000 in
theorem c_neg_neg_10 (x y q m rs ys : Int) (hq : ap 9 x y = (q, 0)) (hr : ap 10 x y = (0, 0)) (hm : (ap 8 q y).1 = m) (ho : (ap 6 m 0).1 = x) (hx : x < 0) (hy : y < 0) (y0 : (y == 0) = false) (q0 : (q == 0) = false) (hqs : 0 ≤ q) (hmm : (x == -2147483648 && y == -1) = false) (hs : ∀ w, Calls Try.prog 15 #[.int .i32 0] w fun e w' => e = .returned (.int .i64 rs) ∧ Drawn0 w w') (hs2 : ∀ w, Calls Try.prog 15 #[.int .i32 y] w fun e w' => e = .returned (.int .i64 ys) ∧ Drawn0 w w') (hlt : rs < ys) (w : World) :
    Calls Try.prog 4 #[.int .i32 x, .int .i32 y] w fun e w' => e = .returned (.bool true) ∧ Drawn0 w w' := by
  have HQ := Lib.hid hq
  have HR := Lib.hid hr
  have HM := Lib.hid hm
  have HO := Lib.hid ho
  have HS := Lib.hid hs
  have HT := Lib.hid hs2
  clear hq hr hm ho hs hs2
  have hxm : ¬ x = -2147483648 ∨ (x = -2147483648 ∧ ¬ y = -1) := by
    by_cases h : x = -2147483648
    · right; refine ⟨h, fun h2 => ?_⟩; subst h; subst h2; simp at hmm
    · left; exact h
  clear hmm
  rcases hxm with h | ⟨h1, h2⟩
  · have xm : (x == -2147483648) = false := beq_eq_false_iff_ne.mpr h
    clear h
    go_enter Try.func4, Try.ntmps4
    go_wp2_with (first | (go_at_call 11; ((with_reducible refine (apply_calls 9 x y q 0 _ HQ.out).mono ?_); rintro e w' ⟨rfl, ⟨nd, rfl⟩⟩)) | (go_at_call 11; ((with_reducible refine (apply_calls 10 x y 0 0 _ HR.out).mono ?_); rintro e w' ⟨rfl, ⟨nd, rfl⟩⟩)) | (go_at_call 14; ((with_reducible refine (op_calls 8 q y m _ HM.out).mono ?_); rintro e w' ⟨rfl, ⟨nd, rfl⟩⟩)) | (go_at_call 14; ((with_reducible refine (op_calls 6 m 0 x _ HO.out).mono ?_); rintro e w' ⟨rfl, ⟨nd, rfl⟩⟩)) | (go_at_call 15; ((with_reducible refine (HS.out _).mono ?_); rintro e w' ⟨rfl, ⟨nd, rfl⟩⟩)) | (go_at_call 15; ((with_reducible refine (HT.out _).mono ?_); rintro e w' ⟨rfl, ⟨nd, rfl⟩⟩)) | (go_at_call 13; ((with_reducible refine (awake_calls _).mono ?_); rintro e w' ⟨rfl, ⟨nd, rfl⟩⟩)))
    go_ret
    exact ⟨by first | rfl | (simp; done) | (simp; omega) | (have k1 : ¬ x < 0 := (by omega); have k2 : ¬ y < 0 := (by omega); have k3 : ¬ q < 0 := (by omega); simp [k1, k2, k3]), by repeat (first | exact Drawn0.refl _ | apply Drawn0.step)⟩
  · have xm : (x == -2147483648) = true := beq_iff_eq.mpr h1
    have ym : (y == -1) = false := beq_eq_false_iff_ne.mpr h2
    clear h1 h2
    go_enter Try.func4, Try.ntmps4
    go_wp2_with (first | (go_at_call 11; ((with_reducible refine (apply_calls 9 x y q 0 _ HQ.out).mono ?_); rintro e w' ⟨rfl, ⟨nd, rfl⟩⟩)) | (go_at_call 11; ((with_reducible refine (apply_calls 10 x y 0 0 _ HR.out).mono ?_); rintro e w' ⟨rfl, ⟨nd, rfl⟩⟩)) | (go_at_call 14; ((with_reducible refine (op_calls 8 q y m _ HM.out).mono ?_); rintro e w' ⟨rfl, ⟨nd, rfl⟩⟩)) | (go_at_call 14; ((with_reducible refine (op_calls 6 m 0 x _ HO.out).mono ?_); rintro e w' ⟨rfl, ⟨nd, rfl⟩⟩)) | (go_at_call 15; ((with_reducible refine (HS.out _).mono ?_); rintro e w' ⟨rfl, ⟨nd, rfl⟩⟩)) | (go_at_call 15; ((with_reducible refine (HT.out _).mono ?_); rintro e w' ⟨rfl, ⟨nd, rfl⟩⟩)) | (go_at_call 13; ((with_reducible refine (awake_calls _).mono ?_); rintro e w' ⟨rfl, ⟨nd, rfl⟩⟩)))
    go_ret
    exact ⟨by first | rfl | (simp; done) | (simp; omega) | (have k1 : ¬ x < 0 := (by omega); have k2 : ¬ y < 0 := (by omega); have k3 : ¬ q < 0 := (by omega); simp [k1, k2, k3]), by repeat (first | exact Drawn0.refl _ | apply Drawn0.step)⟩

set_option maxRecDepth 100000 in
theorem c_neg_neg_01 (x y r m rs ys : Int) (hq : ap 9 x y = (0, 0)) (hr : ap 10 x y = (r, 0)) (hm : (ap 8 0 y).1 = m) (ho : (ap 6 m r).1 = x) (hx : x < 0) (hy : y < 0) (y0 : (y == 0) = false) (r0 : (r == 0) = false) (hrs : r < 0) (hs : ∀ w, Calls Try.prog 15 #[.int .i32 r] w fun e w' => e = .returned (.int .i64 rs) ∧ Drawn0 w w') (hs2 : ∀ w, Calls Try.prog 15 #[.int .i32 y] w fun e w' => e = .returned (.int .i64 ys) ∧ Drawn0 w w') (hlt : rs < ys) (w : World) :
    Calls Try.prog 4 #[.int .i32 x, .int .i32 y] w fun e w' => e = .returned (.bool true) ∧ Drawn0 w w' := by
  have HQ := Lib.hid hq
  have HR := Lib.hid hr
  have HM := Lib.hid hm
  have HO := Lib.hid ho
  have HS := Lib.hid hs
  have HT := Lib.hid hs2
  clear hq hr hm ho hs hs2
  go_enter Try.func4, Try.ntmps4
  go_wp2_with (first | (go_at_call 11; ((with_reducible refine (apply_calls 9 x y 0 0 _ HQ.out).mono ?_); rintro e w' ⟨rfl, ⟨nd, rfl⟩⟩)) | (go_at_call 11; ((with_reducible refine (apply_calls 10 x y r 0 _ HR.out).mono ?_); rintro e w' ⟨rfl, ⟨nd, rfl⟩⟩)) | (go_at_call 14; ((with_reducible refine (op_calls 8 0 y m _ HM.out).mono ?_); rintro e w' ⟨rfl, ⟨nd, rfl⟩⟩)) | (go_at_call 14; ((with_reducible refine (op_calls 6 m r x _ HO.out).mono ?_); rintro e w' ⟨rfl, ⟨nd, rfl⟩⟩)) | (go_at_call 15; ((with_reducible refine (HS.out _).mono ?_); rintro e w' ⟨rfl, ⟨nd, rfl⟩⟩)) | (go_at_call 15; ((with_reducible refine (HT.out _).mono ?_); rintro e w' ⟨rfl, ⟨nd, rfl⟩⟩)) | (go_at_call 13; ((with_reducible refine (awake_calls _).mono ?_); rintro e w' ⟨rfl, ⟨nd, rfl⟩⟩)))
  go_ret
  exact ⟨by first | rfl | (simp; done) | (simp; omega) | (have k1 : ¬ x < 0 := (by omega); have k2 : ¬ y < 0 := (by omega); have k3 : ¬ q < 0 := (by omega); simp [k1, k2, k3]), by repeat (first | exact Drawn0.refl _ | apply Drawn0.step)⟩

set_option maxRecDepth 100000 in
theorem c_neg_neg_00 (x y q r m rs ys : Int) (hq : ap 9 x y = (q, 0)) (hr : ap 10 x y = (r, 0)) (hm : (ap 8 q y).1 = m) (ho : (ap 6 m r).1 = x) (hx : x < 0) (hy : y < 0) (y0 : (y == 0) = false) (r0 : (r == 0) = false) (hrs : r < 0) (q0 : (q == 0) = false) (hqs : 0 ≤ q) (hmm : (x == -2147483648 && y == -1) = false) (hs : ∀ w, Calls Try.prog 15 #[.int .i32 r] w fun e w' => e = .returned (.int .i64 rs) ∧ Drawn0 w w') (hs2 : ∀ w, Calls Try.prog 15 #[.int .i32 y] w fun e w' => e = .returned (.int .i64 ys) ∧ Drawn0 w w') (hlt : rs < ys) (w : World) :
    Calls Try.prog 4 #[.int .i32 x, .int .i32 y] w fun e w' => e = .returned (.bool true) ∧ Drawn0 w w' := by
  have HQ := Lib.hid hq
  have HR := Lib.hid hr
  have HM := Lib.hid hm
  have HO := Lib.hid ho
  have HS := Lib.hid hs
  have HT := Lib.hid hs2
  clear hq hr hm ho hs hs2
  have hxm : ¬ x = -2147483648 ∨ (x = -2147483648 ∧ ¬ y = -1) := by
    by_cases h : x = -2147483648
    · right; refine ⟨h, fun h2 => ?_⟩; subst h; subst h2; simp at hmm
    · left; exact h
  clear hmm
  rcases hxm with h | ⟨h1, h2⟩
  · have xm : (x == -2147483648) = false := beq_eq_false_iff_ne.mpr h
    clear h
    go_enter Try.func4, Try.ntmps4
    go_wp2_with (first | (go_at_call 11; ((with_reducible refine (apply_calls 9 x y q 0 _ HQ.out).mono ?_); rintro e w' ⟨rfl, ⟨nd, rfl⟩⟩)) | (go_at_call 11; ((with_reducible refine (apply_calls 10 x y r 0 _ HR.out).mono ?_); rintro e w' ⟨rfl, ⟨nd, rfl⟩⟩)) | (go_at_call 14; ((with_reducible refine (op_calls 8 q y m _ HM.out).mono ?_); rintro e w' ⟨rfl, ⟨nd, rfl⟩⟩)) | (go_at_call 14; ((with_reducible refine (op_calls 6 m r x _ HO.out).mono ?_); rintro e w' ⟨rfl, ⟨nd, rfl⟩⟩)) | (go_at_call 15; ((with_reducible refine (HS.out _).mono ?_); rintro e w' ⟨rfl, ⟨nd, rfl⟩⟩)) | (go_at_call 15; ((with_reducible refine (HT.out _).mono ?_); rintro e w' ⟨rfl, ⟨nd, rfl⟩⟩)) | (go_at_call 13; ((with_reducible refine (awake_calls _).mono ?_); rintro e w' ⟨rfl, ⟨nd, rfl⟩⟩)))
    go_ret
    exact ⟨by first | rfl | (simp; done) | (simp; omega) | (have k1 : ¬ x < 0 := (by omega); have k2 : ¬ y < 0 := (by omega); have k3 : ¬ q < 0 := (by omega); simp [k1, k2, k3]), by repeat (first | exact Drawn0.refl _ | apply Drawn0.step)⟩
  · have xm : (x == -2147483648) = true := beq_iff_eq.mpr h1
    have ym : (y == -1) = false := beq_eq_false_iff_ne.mpr h2
    clear h1 h2
    go_enter Try.func4, Try.ntmps4
    go_wp2_with (first | (go_at_call 11; ((with_reducible refine (apply_calls 9 x y q 0 _ HQ.out).mono ?_); rintro e w' ⟨rfl, ⟨nd, rfl⟩⟩)) | (go_at_call 11; ((with_reducible refine (apply_calls 10 x y r 0 _ HR.out).mono ?_); rintro e w' ⟨rfl, ⟨nd, rfl⟩⟩)) | (go_at_call 14; ((with_reducible refine (op_calls 8 q y m _ HM.out).mono ?_); rintro e w' ⟨rfl, ⟨nd, rfl⟩⟩)) | (go_at_call 14; ((with_reducible refine (op_calls 6 m r x _ HO.out).mono ?_); rintro e w' ⟨rfl, ⟨nd, rfl⟩⟩)) | (go_at_call 15; ((with_reducible refine (HS.out _).mono ?_); rintro e w' ⟨rfl, ⟨nd, rfl⟩⟩)) | (go_at_call 15; ((with_reducible refine (HT.out _).mono ?_); rintro e w' ⟨rfl, ⟨nd, rfl⟩⟩)) | (go_at_call 13; ((with_reducible refine (awake_calls _).mono ?_); rintro e w' ⟨rfl, ⟨nd, rfl⟩⟩)))
    go_ret
    exact ⟨by first | rfl | (simp; done) | (simp; omega) | (have k1 : ¬ x < 0 := (by omega); have k2 : ¬ y < 0 := (by omega); have k3 : ¬ q < 0 := (by omega); simp [k1, k2, k3]), by repeat (first | exact Drawn0.refl _ | apply Drawn0.step)⟩

set_option maxRecDepth 100000 in
theorem c_neg_pos_11 (x y m rs ys : Int) (hq : ap 9 x y = (0, 0)) (hr : ap 10 x y = (0, 0)) (hm : (ap 8 0 y).1 = m) (ho : (ap 6 m 0).1 = x) (hx : x < 0) (hy : 0 < y) (y0 : (y == 0) = false) (hs : ∀ w, Calls Try.prog 15 #[.int .i32 0] w fun e w' => e = .returned (.int .i64 rs) ∧ Drawn0 w w') (hs2 : ∀ w, Calls Try.prog 15 #[.int .i32 y] w fun e w' => e = .returned (.int .i64 ys) ∧ Drawn0 w w') (hlt : rs < ys) (w : World) :
    Calls Try.prog 4 #[.int .i32 x, .int .i32 y] w fun e w' => e = .returned (.bool true) ∧ Drawn0 w w' := by
  have HQ := Lib.hid hq
  have HR := Lib.hid hr
  have HM := Lib.hid hm
  have HO := Lib.hid ho
  have HS := Lib.hid hs
  have HT := Lib.hid hs2
  clear hq hr hm ho hs hs2
  go_enter Try.func4, Try.ntmps4
  go_wp2_with (first | (go_at_call 11; ((with_reducible refine (apply_calls 9 x y 0 0 _ HQ.out).mono ?_); rintro e w' ⟨rfl, ⟨nd, rfl⟩⟩)) | (go_at_call 11; ((with_reducible refine (apply_calls 10 x y 0 0 _ HR.out).mono ?_); rintro e w' ⟨rfl, ⟨nd, rfl⟩⟩)) | (go_at_call 14; ((with_reducible refine (op_calls 8 0 y m _ HM.out).mono ?_); rintro e w' ⟨rfl, ⟨nd, rfl⟩⟩)) | (go_at_call 14; ((with_reducible refine (op_calls 6 m 0 x _ HO.out).mono ?_); rintro e w' ⟨rfl, ⟨nd, rfl⟩⟩)) | (go_at_call 15; ((with_reducible refine (HS.out _).mono ?_); rintro e w' ⟨rfl, ⟨nd, rfl⟩⟩)) | (go_at_call 15; ((with_reducible refine (HT.out _).mono ?_); rintro e w' ⟨rfl, ⟨nd, rfl⟩⟩)) | (go_at_call 13; ((with_reducible refine (awake_calls _).mono ?_); rintro e w' ⟨rfl, ⟨nd, rfl⟩⟩)))
  go_ret
  exact ⟨by first | rfl | (simp; done) | (simp; omega) | (have k1 : ¬ x < 0 := (by omega); have k2 : ¬ y < 0 := (by omega); have k3 : ¬ q < 0 := (by omega); simp [k1, k2, k3]), by repeat (first | exact Drawn0.refl _ | apply Drawn0.step)⟩

set_option maxRecDepth 100000 in
theorem c_neg_pos_10 (x y q m rs ys : Int) (hq : ap 9 x y = (q, 0)) (hr : ap 10 x y = (0, 0)) (hm : (ap 8 q y).1 = m) (ho : (ap 6 m 0).1 = x) (hx : x < 0) (hy : 0 < y) (y0 : (y == 0) = false) (q0 : (q == 0) = false) (hqs : q < 0) (hmm : (x == -2147483648 && y == -1) = false) (hs : ∀ w, Calls Try.prog 15 #[.int .i32 0] w fun e w' => e = .returned (.int .i64 rs) ∧ Drawn0 w w') (hs2 : ∀ w, Calls Try.prog 15 #[.int .i32 y] w fun e w' => e = .returned (.int .i64 ys) ∧ Drawn0 w w') (hlt : rs < ys) (w : World) :
    Calls Try.prog 4 #[.int .i32 x, .int .i32 y] w fun e w' => e = .returned (.bool true) ∧ Drawn0 w w' := by
  have HQ := Lib.hid hq
  have HR := Lib.hid hr
  have HM := Lib.hid hm
  have HO := Lib.hid ho
  have HS := Lib.hid hs
  have HT := Lib.hid hs2
  clear hq hr hm ho hs hs2
  have hxm : ¬ x = -2147483648 ∨ (x = -2147483648 ∧ ¬ y = -1) := by
    by_cases h : x = -2147483648
    · right; refine ⟨h, fun h2 => ?_⟩; subst h; subst h2; simp at hmm
    · left; exact h
  clear hmm
  rcases hxm with h | ⟨h1, h2⟩
  · have xm : (x == -2147483648) = false := beq_eq_false_iff_ne.mpr h
    clear h
    go_enter Try.func4, Try.ntmps4
    go_wp2_with (first | (go_at_call 11; ((with_reducible refine (apply_calls 9 x y q 0 _ HQ.out).mono ?_); rintro e w' ⟨rfl, ⟨nd, rfl⟩⟩)) | (go_at_call 11; ((with_reducible refine (apply_calls 10 x y 0 0 _ HR.out).mono ?_); rintro e w' ⟨rfl, ⟨nd, rfl⟩⟩)) | (go_at_call 14; ((with_reducible refine (op_calls 8 q y m _ HM.out).mono ?_); rintro e w' ⟨rfl, ⟨nd, rfl⟩⟩)) | (go_at_call 14; ((with_reducible refine (op_calls 6 m 0 x _ HO.out).mono ?_); rintro e w' ⟨rfl, ⟨nd, rfl⟩⟩)) | (go_at_call 15; ((with_reducible refine (HS.out _).mono ?_); rintro e w' ⟨rfl, ⟨nd, rfl⟩⟩)) | (go_at_call 15; ((with_reducible refine (HT.out _).mono ?_); rintro e w' ⟨rfl, ⟨nd, rfl⟩⟩)) | (go_at_call 13; ((with_reducible refine (awake_calls _).mono ?_); rintro e w' ⟨rfl, ⟨nd, rfl⟩⟩)))
    go_ret
    exact ⟨by first | rfl | (simp; done) | (simp; omega) | (have k1 : ¬ x < 0 := (by omega); have k2 : ¬ y < 0 := (by omega); have k3 : ¬ q < 0 := (by omega); simp [k1, k2, k3]), by repeat (first | exact Drawn0.refl _ | apply Drawn0.step)⟩
  · have xm : (x == -2147483648) = true := beq_iff_eq.mpr h1
    have ym : (y == -1) = false := beq_eq_false_iff_ne.mpr h2
    clear h1 h2
    go_enter Try.func4, Try.ntmps4
    go_wp2_with (first | (go_at_call 11; ((with_reducible refine (apply_calls 9 x y q 0 _ HQ.out).mono ?_); rintro e w' ⟨rfl, ⟨nd, rfl⟩⟩)) | (go_at_call 11; ((with_reducible refine (apply_calls 10 x y 0 0 _ HR.out).mono ?_); rintro e w' ⟨rfl, ⟨nd, rfl⟩⟩)) | (go_at_call 14; ((with_reducible refine (op_calls 8 q y m _ HM.out).mono ?_); rintro e w' ⟨rfl, ⟨nd, rfl⟩⟩)) | (go_at_call 14; ((with_reducible refine (op_calls 6 m 0 x _ HO.out).mono ?_); rintro e w' ⟨rfl, ⟨nd, rfl⟩⟩)) | (go_at_call 15; ((with_reducible refine (HS.out _).mono ?_); rintro e w' ⟨rfl, ⟨nd, rfl⟩⟩)) | (go_at_call 15; ((with_reducible refine (HT.out _).mono ?_); rintro e w' ⟨rfl, ⟨nd, rfl⟩⟩)) | (go_at_call 13; ((with_reducible refine (awake_calls _).mono ?_); rintro e w' ⟨rfl, ⟨nd, rfl⟩⟩)))
    go_ret
    exact ⟨by first | rfl | (simp; done) | (simp; omega) | (have k1 : ¬ x < 0 := (by omega); have k2 : ¬ y < 0 := (by omega); have k3 : ¬ q < 0 := (by omega); simp [k1, k2, k3]), by repeat (first | exact Drawn0.refl _ | apply Drawn0.step)⟩

set_option maxRecDepth 100000 in
theorem c_neg_pos_01 (x y r m rs ys : Int) (hq : ap 9 x y = (0, 0)) (hr : ap 10 x y = (r, 0)) (hm : (ap 8 0 y).1 = m) (ho : (ap 6 m r).1 = x) (hx : x < 0) (hy : 0 < y) (y0 : (y == 0) = false) (r0 : (r == 0) = false) (hrs : r < 0) (hs : ∀ w, Calls Try.prog 15 #[.int .i32 r] w fun e w' => e = .returned (.int .i64 rs) ∧ Drawn0 w w') (hs2 : ∀ w, Calls Try.prog 15 #[.int .i32 y] w fun e w' => e = .returned (.int .i64 ys) ∧ Drawn0 w w') (hlt : rs < ys) (w : World) :
    Calls Try.prog 4 #[.int .i32 x, .int .i32 y] w fun e w' => e = .returned (.bool true) ∧ Drawn0 w w' := by
  have HQ := Lib.hid hq
  have HR := Lib.hid hr
  have HM := Lib.hid hm
  have HO := Lib.hid ho
  have HS := Lib.hid hs
  have HT := Lib.hid hs2
  clear hq hr hm ho hs hs2
  go_enter Try.func4, Try.ntmps4
  go_wp2_with (first | (go_at_call 11; ((with_reducible refine (apply_calls 9 x y 0 0 _ HQ.out).mono ?_); rintro e w' ⟨rfl, ⟨nd, rfl⟩⟩)) | (go_at_call 11; ((with_reducible refine (apply_calls 10 x y r 0 _ HR.out).mono ?_); rintro e w' ⟨rfl, ⟨nd, rfl⟩⟩)) | (go_at_call 14; ((with_reducible refine (op_calls 8 0 y m _ HM.out).mono ?_); rintro e w' ⟨rfl, ⟨nd, rfl⟩⟩)) | (go_at_call 14; ((with_reducible refine (op_calls 6 m r x _ HO.out).mono ?_); rintro e w' ⟨rfl, ⟨nd, rfl⟩⟩)) | (go_at_call 15; ((with_reducible refine (HS.out _).mono ?_); rintro e w' ⟨rfl, ⟨nd, rfl⟩⟩)) | (go_at_call 15; ((with_reducible refine (HT.out _).mono ?_); rintro e w' ⟨rfl, ⟨nd, rfl⟩⟩)) | (go_at_call 13; ((with_reducible refine (awake_calls _).mono ?_); rintro e w' ⟨rfl, ⟨nd, rfl⟩⟩)))
  go_ret
  exact ⟨by first | rfl | (simp; done) | (simp; omega) | (have k1 : ¬ x < 0 := (by omega); have k2 : ¬ y < 0 := (by omega); have k3 : ¬ q < 0 := (by omega); simp [k1, k2, k3]), by repeat (first | exact Drawn0.refl _ | apply Drawn0.step)⟩

set_option maxRecDepth 100000 in
theorem c_neg_pos_00 (x y q r m rs ys : Int) (hq : ap 9 x y = (q, 0)) (hr : ap 10 x y = (r, 0)) (hm : (ap 8 q y).1 = m) (ho : (ap 6 m r).1 = x) (hx : x < 0) (hy : 0 < y) (y0 : (y == 0) = false) (r0 : (r == 0) = false) (hrs : r < 0) (q0 : (q == 0) = false) (hqs : q < 0) (hmm : (x == -2147483648 && y == -1) = false) (hs : ∀ w, Calls Try.prog 15 #[.int .i32 r] w fun e w' => e = .returned (.int .i64 rs) ∧ Drawn0 w w') (hs2 : ∀ w, Calls Try.prog 15 #[.int .i32 y] w fun e w' => e = .returned (.int .i64 ys) ∧ Drawn0 w w') (hlt : rs < ys) (w : World) :
    Calls Try.prog 4 #[.int .i32 x, .int .i32 y] w fun e w' => e = .returned (.bool true) ∧ Drawn0 w w' := by
  have HQ := Lib.hid hq
  have HR := Lib.hid hr
  have HM := Lib.hid hm
  have HO := Lib.hid ho
  have HS := Lib.hid hs
  have HT := Lib.hid hs2
  clear hq hr hm ho hs hs2
  have hxm : ¬ x = -2147483648 ∨ (x = -2147483648 ∧ ¬ y = -1) := by
    by_cases h : x = -2147483648
    · right; refine ⟨h, fun h2 => ?_⟩; subst h; subst h2; simp at hmm
    · left; exact h
  clear hmm
  rcases hxm with h | ⟨h1, h2⟩
  · have xm : (x == -2147483648) = false := beq_eq_false_iff_ne.mpr h
    clear h
    go_enter Try.func4, Try.ntmps4
    go_wp2_with (first | (go_at_call 11; ((with_reducible refine (apply_calls 9 x y q 0 _ HQ.out).mono ?_); rintro e w' ⟨rfl, ⟨nd, rfl⟩⟩)) | (go_at_call 11; ((with_reducible refine (apply_calls 10 x y r 0 _ HR.out).mono ?_); rintro e w' ⟨rfl, ⟨nd, rfl⟩⟩)) | (go_at_call 14; ((with_reducible refine (op_calls 8 q y m _ HM.out).mono ?_); rintro e w' ⟨rfl, ⟨nd, rfl⟩⟩)) | (go_at_call 14; ((with_reducible refine (op_calls 6 m r x _ HO.out).mono ?_); rintro e w' ⟨rfl, ⟨nd, rfl⟩⟩)) | (go_at_call 15; ((with_reducible refine (HS.out _).mono ?_); rintro e w' ⟨rfl, ⟨nd, rfl⟩⟩)) | (go_at_call 15; ((with_reducible refine (HT.out _).mono ?_); rintro e w' ⟨rfl, ⟨nd, rfl⟩⟩)) | (go_at_call 13; ((with_reducible refine (awake_calls _).mono ?_); rintro e w' ⟨rfl, ⟨nd, rfl⟩⟩)))
    go_ret
    exact ⟨by first | rfl | (simp; done) | (simp; omega) | (have k1 : ¬ x < 0 := (by omega); have k2 : ¬ y < 0 := (by omega); have k3 : ¬ q < 0 := (by omega); simp [k1, k2, k3]), by repeat (first | exact Drawn0.refl _ | apply Drawn0.step)⟩
  · have xm : (x == -2147483648) = true := beq_iff_eq.mpr h1
    have ym : (y == -1) = false := beq_eq_false_iff_ne.mpr h2
    clear h1 h2
    go_enter Try.func4, Try.ntmps4
    go_wp2_with (first | (go_at_call 11; ((with_reducible refine (apply_calls 9 x y q 0 _ HQ.out).mono ?_); rintro e w' ⟨rfl, ⟨nd, rfl⟩⟩)) | (go_at_call 11; ((with_reducible refine (apply_calls 10 x y r 0 _ HR.out).mono ?_); rintro e w' ⟨rfl, ⟨nd, rfl⟩⟩)) | (go_at_call 14; ((with_reducible refine (op_calls 8 q y m _ HM.out).mono ?_); rintro e w' ⟨rfl, ⟨nd, rfl⟩⟩)) | (go_at_call 14; ((with_reducible refine (op_calls 6 m r x _ HO.out).mono ?_); rintro e w' ⟨rfl, ⟨nd, rfl⟩⟩)) | (go_at_call 15; ((with_reducible refine (HS.out _).mono ?_); rintro e w' ⟨rfl, ⟨nd, rfl⟩⟩)) | (go_at_call 15; ((with_reducible refine (HT.out _).mono ?_); rintro e w' ⟨rfl, ⟨nd, rfl⟩⟩)) | (go_at_call 13; ((with_reducible refine (awake_calls _).mono ?_); rintro e w' ⟨rfl, ⟨nd, rfl⟩⟩)))
    go_ret
    exact ⟨by first | rfl | (simp; done) | (simp; omega) | (have k1 : ¬ x < 0 := (by omega); have k2 : ¬ y < 0 := (by omega); have k3 : ¬ q < 0 := (by omega); simp [k1, k2, k3]), by repeat (first | exact Drawn0.refl _ | apply Drawn0.step)⟩

set_option maxRecDepth 100000 in
theorem c_pos_neg_11 (x y m rs ys : Int) (hq : ap 9 x y = (0, 0)) (hr : ap 10 x y = (0, 0)) (hm : (ap 8 0 y).1 = m) (ho : (ap 6 m 0).1 = x) (hx : 0 ≤ x) (hy : y < 0) (y0 : (y == 0) = false) (hs : ∀ w, Calls Try.prog 15 #[.int .i32 0] w fun e w' => e = .returned (.int .i64 rs) ∧ Drawn0 w w') (hs2 : ∀ w, Calls Try.prog 15 #[.int .i32 y] w fun e w' => e = .returned (.int .i64 ys) ∧ Drawn0 w w') (hlt : rs < ys) (w : World) :
    Calls Try.prog 4 #[.int .i32 x, .int .i32 y] w fun e w' => e = .returned (.bool true) ∧ Drawn0 w w' := by
  have HQ := Lib.hid hq
  have HR := Lib.hid hr
  have HM := Lib.hid hm
  have HO := Lib.hid ho
  have HS := Lib.hid hs
  have HT := Lib.hid hs2
  clear hq hr hm ho hs hs2
  go_enter Try.func4, Try.ntmps4
  go_wp2_with (first | (go_at_call 11; ((with_reducible refine (apply_calls 9 x y 0 0 _ HQ.out).mono ?_); rintro e w' ⟨rfl, ⟨nd, rfl⟩⟩)) | (go_at_call 11; ((with_reducible refine (apply_calls 10 x y 0 0 _ HR.out).mono ?_); rintro e w' ⟨rfl, ⟨nd, rfl⟩⟩)) | (go_at_call 14; ((with_reducible refine (op_calls 8 0 y m _ HM.out).mono ?_); rintro e w' ⟨rfl, ⟨nd, rfl⟩⟩)) | (go_at_call 14; ((with_reducible refine (op_calls 6 m 0 x _ HO.out).mono ?_); rintro e w' ⟨rfl, ⟨nd, rfl⟩⟩)) | (go_at_call 15; ((with_reducible refine (HS.out _).mono ?_); rintro e w' ⟨rfl, ⟨nd, rfl⟩⟩)) | (go_at_call 15; ((with_reducible refine (HT.out _).mono ?_); rintro e w' ⟨rfl, ⟨nd, rfl⟩⟩)) | (go_at_call 13; ((with_reducible refine (awake_calls _).mono ?_); rintro e w' ⟨rfl, ⟨nd, rfl⟩⟩)))
  go_ret
  exact ⟨by first | rfl | (simp; done) | (simp; omega) | (have k1 : ¬ x < 0 := (by omega); have k2 : ¬ y < 0 := (by omega); have k3 : ¬ q < 0 := (by omega); simp [k1, k2, k3]), by repeat (first | exact Drawn0.refl _ | apply Drawn0.step)⟩

set_option maxRecDepth 100000 in
theorem c_pos_neg_10 (x y q m rs ys : Int) (hq : ap 9 x y = (q, 0)) (hr : ap 10 x y = (0, 0)) (hm : (ap 8 q y).1 = m) (ho : (ap 6 m 0).1 = x) (hx : 0 ≤ x) (hy : y < 0) (y0 : (y == 0) = false) (q0 : (q == 0) = false) (hqs : q < 0) (hmm : (x == -2147483648 && y == -1) = false) (hs : ∀ w, Calls Try.prog 15 #[.int .i32 0] w fun e w' => e = .returned (.int .i64 rs) ∧ Drawn0 w w') (hs2 : ∀ w, Calls Try.prog 15 #[.int .i32 y] w fun e w' => e = .returned (.int .i64 ys) ∧ Drawn0 w w') (hlt : rs < ys) (w : World) :
    Calls Try.prog 4 #[.int .i32 x, .int .i32 y] w fun e w' => e = .returned (.bool true) ∧ Drawn0 w w' := by
  have HQ := Lib.hid hq
  have HR := Lib.hid hr
  have HM := Lib.hid hm
  have HO := Lib.hid ho
  have HS := Lib.hid hs
  have HT := Lib.hid hs2
  clear hq hr hm ho hs hs2
  have hxm : ¬ x = -2147483648 ∨ (x = -2147483648 ∧ ¬ y = -1) := by
    by_cases h : x = -2147483648
    · right; refine ⟨h, fun h2 => ?_⟩; subst h; subst h2; simp at hmm
    · left; exact h
  clear hmm
  rcases hxm with h | ⟨h1, h2⟩
  · have xm : (x == -2147483648) = false := beq_eq_false_iff_ne.mpr h
    clear h
    go_enter Try.func4, Try.ntmps4
    go_wp2_with (first | (go_at_call 11; ((with_reducible refine (apply_calls 9 x y q 0 _ HQ.out).mono ?_); rintro e w' ⟨rfl, ⟨nd, rfl⟩⟩)) | (go_at_call 11; ((with_reducible refine (apply_calls 10 x y 0 0 _ HR.out).mono ?_); rintro e w' ⟨rfl, ⟨nd, rfl⟩⟩)) | (go_at_call 14; ((with_reducible refine (op_calls 8 q y m _ HM.out).mono ?_); rintro e w' ⟨rfl, ⟨nd, rfl⟩⟩)) | (go_at_call 14; ((with_reducible refine (op_calls 6 m 0 x _ HO.out).mono ?_); rintro e w' ⟨rfl, ⟨nd, rfl⟩⟩)) | (go_at_call 15; ((with_reducible refine (HS.out _).mono ?_); rintro e w' ⟨rfl, ⟨nd, rfl⟩⟩)) | (go_at_call 15; ((with_reducible refine (HT.out _).mono ?_); rintro e w' ⟨rfl, ⟨nd, rfl⟩⟩)) | (go_at_call 13; ((with_reducible refine (awake_calls _).mono ?_); rintro e w' ⟨rfl, ⟨nd, rfl⟩⟩)))
    go_ret
    exact ⟨by first | rfl | (simp; done) | (simp; omega) | (have k1 : ¬ x < 0 := (by omega); have k2 : ¬ y < 0 := (by omega); have k3 : ¬ q < 0 := (by omega); simp [k1, k2, k3]), by repeat (first | exact Drawn0.refl _ | apply Drawn0.step)⟩
  · have xm : (x == -2147483648) = true := beq_iff_eq.mpr h1
    have ym : (y == -1) = false := beq_eq_false_iff_ne.mpr h2
    clear h1 h2
    go_enter Try.func4, Try.ntmps4
    go_wp2_with (first | (go_at_call 11; ((with_reducible refine (apply_calls 9 x y q 0 _ HQ.out).mono ?_); rintro e w' ⟨rfl, ⟨nd, rfl⟩⟩)) | (go_at_call 11; ((with_reducible refine (apply_calls 10 x y 0 0 _ HR.out).mono ?_); rintro e w' ⟨rfl, ⟨nd, rfl⟩⟩)) | (go_at_call 14; ((with_reducible refine (op_calls 8 q y m _ HM.out).mono ?_); rintro e w' ⟨rfl, ⟨nd, rfl⟩⟩)) | (go_at_call 14; ((with_reducible refine (op_calls 6 m 0 x _ HO.out).mono ?_); rintro e w' ⟨rfl, ⟨nd, rfl⟩⟩)) | (go_at_call 15; ((with_reducible refine (HS.out _).mono ?_); rintro e w' ⟨rfl, ⟨nd, rfl⟩⟩)) | (go_at_call 15; ((with_reducible refine (HT.out _).mono ?_); rintro e w' ⟨rfl, ⟨nd, rfl⟩⟩)) | (go_at_call 13; ((with_reducible refine (awake_calls _).mono ?_); rintro e w' ⟨rfl, ⟨nd, rfl⟩⟩)))
    go_ret
    exact ⟨by first | rfl | (simp; done) | (simp; omega) | (have k1 : ¬ x < 0 := (by omega); have k2 : ¬ y < 0 := (by omega); have k3 : ¬ q < 0 := (by omega); simp [k1, k2, k3]), by repeat (first | exact Drawn0.refl _ | apply Drawn0.step)⟩

set_option maxRecDepth 100000 in
theorem c_pos_neg_01 (x y r m rs ys : Int) (hq : ap 9 x y = (0, 0)) (hr : ap 10 x y = (r, 0)) (hm : (ap 8 0 y).1 = m) (ho : (ap 6 m r).1 = x) (hx : 0 ≤ x) (hy : y < 0) (y0 : (y == 0) = false) (r0 : (r == 0) = false) (hrs : 0 ≤ r) (hs : ∀ w, Calls Try.prog 15 #[.int .i32 r] w fun e w' => e = .returned (.int .i64 rs) ∧ Drawn0 w w') (hs2 : ∀ w, Calls Try.prog 15 #[.int .i32 y] w fun e w' => e = .returned (.int .i64 ys) ∧ Drawn0 w w') (hlt : rs < ys) (w : World) :
    Calls Try.prog 4 #[.int .i32 x, .int .i32 y] w fun e w' => e = .returned (.bool true) ∧ Drawn0 w w' := by
  have HQ := Lib.hid hq
  have HR := Lib.hid hr
  have HM := Lib.hid hm
  have HO := Lib.hid ho
  have HS := Lib.hid hs
  have HT := Lib.hid hs2
  clear hq hr hm ho hs hs2
  go_enter Try.func4, Try.ntmps4
  go_wp2_with (first | (go_at_call 11; ((with_reducible refine (apply_calls 9 x y 0 0 _ HQ.out).mono ?_); rintro e w' ⟨rfl, ⟨nd, rfl⟩⟩)) | (go_at_call 11; ((with_reducible refine (apply_calls 10 x y r 0 _ HR.out).mono ?_); rintro e w' ⟨rfl, ⟨nd, rfl⟩⟩)) | (go_at_call 14; ((with_reducible refine (op_calls 8 0 y m _ HM.out).mono ?_); rintro e w' ⟨rfl, ⟨nd, rfl⟩⟩)) | (go_at_call 14; ((with_reducible refine (op_calls 6 m r x _ HO.out).mono ?_); rintro e w' ⟨rfl, ⟨nd, rfl⟩⟩)) | (go_at_call 15; ((with_reducible refine (HS.out _).mono ?_); rintro e w' ⟨rfl, ⟨nd, rfl⟩⟩)) | (go_at_call 15; ((with_reducible refine (HT.out _).mono ?_); rintro e w' ⟨rfl, ⟨nd, rfl⟩⟩)) | (go_at_call 13; ((with_reducible refine (awake_calls _).mono ?_); rintro e w' ⟨rfl, ⟨nd, rfl⟩⟩)))
  go_ret
  exact ⟨by first | rfl | (simp; done) | (simp; omega) | (have k1 : ¬ x < 0 := (by omega); have k2 : ¬ y < 0 := (by omega); have k3 : ¬ q < 0 := (by omega); simp [k1, k2, k3]), by repeat (first | exact Drawn0.refl _ | apply Drawn0.step)⟩

set_option maxRecDepth 100000 in
theorem c_pos_neg_00 (x y q r m rs ys : Int) (hq : ap 9 x y = (q, 0)) (hr : ap 10 x y = (r, 0)) (hm : (ap 8 q y).1 = m) (ho : (ap 6 m r).1 = x) (hx : 0 ≤ x) (hy : y < 0) (y0 : (y == 0) = false) (r0 : (r == 0) = false) (hrs : 0 ≤ r) (q0 : (q == 0) = false) (hqs : q < 0) (hmm : (x == -2147483648 && y == -1) = false) (hs : ∀ w, Calls Try.prog 15 #[.int .i32 r] w fun e w' => e = .returned (.int .i64 rs) ∧ Drawn0 w w') (hs2 : ∀ w, Calls Try.prog 15 #[.int .i32 y] w fun e w' => e = .returned (.int .i64 ys) ∧ Drawn0 w w') (hlt : rs < ys) (w : World) :
    Calls Try.prog 4 #[.int .i32 x, .int .i32 y] w fun e w' => e = .returned (.bool true) ∧ Drawn0 w w' := by
  have HQ := Lib.hid hq
  have HR := Lib.hid hr
  have HM := Lib.hid hm
  have HO := Lib.hid ho
  have HS := Lib.hid hs
  have HT := Lib.hid hs2
  clear hq hr hm ho hs hs2
  have hxm : ¬ x = -2147483648 ∨ (x = -2147483648 ∧ ¬ y = -1) := by
    by_cases h : x = -2147483648
    · right; refine ⟨h, fun h2 => ?_⟩; subst h; subst h2; simp at hmm
    · left; exact h
  clear hmm
  rcases hxm with h | ⟨h1, h2⟩
  · have xm : (x == -2147483648) = false := beq_eq_false_iff_ne.mpr h
    clear h
    go_enter Try.func4, Try.ntmps4
    go_wp2_with (first | (go_at_call 11; ((with_reducible refine (apply_calls 9 x y q 0 _ HQ.out).mono ?_); rintro e w' ⟨rfl, ⟨nd, rfl⟩⟩)) | (go_at_call 11; ((with_reducible refine (apply_calls 10 x y r 0 _ HR.out).mono ?_); rintro e w' ⟨rfl, ⟨nd, rfl⟩⟩)) | (go_at_call 14; ((with_reducible refine (op_calls 8 q y m _ HM.out).mono ?_); rintro e w' ⟨rfl, ⟨nd, rfl⟩⟩)) | (go_at_call 14; ((with_reducible refine (op_calls 6 m r x _ HO.out).mono ?_); rintro e w' ⟨rfl, ⟨nd, rfl⟩⟩)) | (go_at_call 15; ((with_reducible refine (HS.out _).mono ?_); rintro e w' ⟨rfl, ⟨nd, rfl⟩⟩)) | (go_at_call 15; ((with_reducible refine (HT.out _).mono ?_); rintro e w' ⟨rfl, ⟨nd, rfl⟩⟩)) | (go_at_call 13; ((with_reducible refine (awake_calls _).mono ?_); rintro e w' ⟨rfl, ⟨nd, rfl⟩⟩)))
    go_ret
    exact ⟨by first | rfl | (simp; done) | (simp; omega) | (have k1 : ¬ x < 0 := (by omega); have k2 : ¬ y < 0 := (by omega); have k3 : ¬ q < 0 := (by omega); simp [k1, k2, k3]), by repeat (first | exact Drawn0.refl _ | apply Drawn0.step)⟩
  · have xm : (x == -2147483648) = true := beq_iff_eq.mpr h1
    have ym : (y == -1) = false := beq_eq_false_iff_ne.mpr h2
    clear h1 h2
    go_enter Try.func4, Try.ntmps4
    go_wp2_with (first | (go_at_call 11; ((with_reducible refine (apply_calls 9 x y q 0 _ HQ.out).mono ?_); rintro e w' ⟨rfl, ⟨nd, rfl⟩⟩)) | (go_at_call 11; ((with_reducible refine (apply_calls 10 x y r 0 _ HR.out).mono ?_); rintro e w' ⟨rfl, ⟨nd, rfl⟩⟩)) | (go_at_call 14; ((with_reducible refine (op_calls 8 q y m _ HM.out).mono ?_); rintro e w' ⟨rfl, ⟨nd, rfl⟩⟩)) | (go_at_call 14; ((with_reducible refine (op_calls 6 m r x _ HO.out).mono ?_); rintro e w' ⟨rfl, ⟨nd, rfl⟩⟩)) | (go_at_call 15; ((with_reducible refine (HS.out _).mono ?_); rintro e w' ⟨rfl, ⟨nd, rfl⟩⟩)) | (go_at_call 15; ((with_reducible refine (HT.out _).mono ?_); rintro e w' ⟨rfl, ⟨nd, rfl⟩⟩)) | (go_at_call 13; ((with_reducible refine (awake_calls _).mono ?_); rintro e w' ⟨rfl, ⟨nd, rfl⟩⟩)))
    go_ret
    exact ⟨by first | rfl | (simp; done) | (simp; omega) | (have k1 : ¬ x < 0 := (by omega); have k2 : ¬ y < 0 := (by omega); have k3 : ¬ q < 0 := (by omega); simp [k1, k2, k3]), by repeat (first | exact Drawn0.refl _ | apply Drawn0.step)⟩

set_option maxRecDepth 100000 in
theorem c_pos_pos_11 (x y m rs ys : Int) (hq : ap 9 x y = (0, 0)) (hr : ap 10 x y = (0, 0)) (hm : (ap 8 0 y).1 = m) (ho : (ap 6 m 0).1 = x) (hx : 0 ≤ x) (hy : 0 < y) (y0 : (y == 0) = false) (hs : ∀ w, Calls Try.prog 15 #[.int .i32 0] w fun e w' => e = .returned (.int .i64 rs) ∧ Drawn0 w w') (hs2 : ∀ w, Calls Try.prog 15 #[.int .i32 y] w fun e w' => e = .returned (.int .i64 ys) ∧ Drawn0 w w') (hlt : rs < ys) (w : World) :
    Calls Try.prog 4 #[.int .i32 x, .int .i32 y] w fun e w' => e = .returned (.bool true) ∧ Drawn0 w w' := by
  have HQ := Lib.hid hq
  have HR := Lib.hid hr
  have HM := Lib.hid hm
  have HO := Lib.hid ho
  have HS := Lib.hid hs
  have HT := Lib.hid hs2
  clear hq hr hm ho hs hs2
  go_enter Try.func4, Try.ntmps4
  go_wp2_with (first | (go_at_call 11; ((with_reducible refine (apply_calls 9 x y 0 0 _ HQ.out).mono ?_); rintro e w' ⟨rfl, ⟨nd, rfl⟩⟩)) | (go_at_call 11; ((with_reducible refine (apply_calls 10 x y 0 0 _ HR.out).mono ?_); rintro e w' ⟨rfl, ⟨nd, rfl⟩⟩)) | (go_at_call 14; ((with_reducible refine (op_calls 8 0 y m _ HM.out).mono ?_); rintro e w' ⟨rfl, ⟨nd, rfl⟩⟩)) | (go_at_call 14; ((with_reducible refine (op_calls 6 m 0 x _ HO.out).mono ?_); rintro e w' ⟨rfl, ⟨nd, rfl⟩⟩)) | (go_at_call 15; ((with_reducible refine (HS.out _).mono ?_); rintro e w' ⟨rfl, ⟨nd, rfl⟩⟩)) | (go_at_call 15; ((with_reducible refine (HT.out _).mono ?_); rintro e w' ⟨rfl, ⟨nd, rfl⟩⟩)) | (go_at_call 13; ((with_reducible refine (awake_calls _).mono ?_); rintro e w' ⟨rfl, ⟨nd, rfl⟩⟩)))
  go_ret
  exact ⟨by first | rfl | (simp; done) | (simp; omega) | (have k1 : ¬ x < 0 := (by omega); have k2 : ¬ y < 0 := (by omega); have k3 : ¬ q < 0 := (by omega); simp [k1, k2, k3]), by repeat (first | exact Drawn0.refl _ | apply Drawn0.step)⟩

set_option maxRecDepth 100000 in
theorem c_pos_pos_10 (x y q m rs ys : Int) (hq : ap 9 x y = (q, 0)) (hr : ap 10 x y = (0, 0)) (hm : (ap 8 q y).1 = m) (ho : (ap 6 m 0).1 = x) (hx : 0 ≤ x) (hy : 0 < y) (y0 : (y == 0) = false) (q0 : (q == 0) = false) (hqs : 0 ≤ q) (hmm : (x == -2147483648 && y == -1) = false) (hs : ∀ w, Calls Try.prog 15 #[.int .i32 0] w fun e w' => e = .returned (.int .i64 rs) ∧ Drawn0 w w') (hs2 : ∀ w, Calls Try.prog 15 #[.int .i32 y] w fun e w' => e = .returned (.int .i64 ys) ∧ Drawn0 w w') (hlt : rs < ys) (w : World) :
    Calls Try.prog 4 #[.int .i32 x, .int .i32 y] w fun e w' => e = .returned (.bool true) ∧ Drawn0 w w' := by
  have HQ := Lib.hid hq
  have HR := Lib.hid hr
  have HM := Lib.hid hm
  have HO := Lib.hid ho
  have HS := Lib.hid hs
  have HT := Lib.hid hs2
  clear hq hr hm ho hs hs2
  have hxm : ¬ x = -2147483648 ∨ (x = -2147483648 ∧ ¬ y = -1) := by
    by_cases h : x = -2147483648
    · right; refine ⟨h, fun h2 => ?_⟩; subst h; subst h2; simp at hmm
    · left; exact h
  clear hmm
  rcases hxm with h | ⟨h1, h2⟩
  · have xm : (x == -2147483648) = false := beq_eq_false_iff_ne.mpr h
    clear h
    go_enter Try.func4, Try.ntmps4
    go_wp2_with (first | (go_at_call 11; ((with_reducible refine (apply_calls 9 x y q 0 _ HQ.out).mono ?_); rintro e w' ⟨rfl, ⟨nd, rfl⟩⟩)) | (go_at_call 11; ((with_reducible refine (apply_calls 10 x y 0 0 _ HR.out).mono ?_); rintro e w' ⟨rfl, ⟨nd, rfl⟩⟩)) | (go_at_call 14; ((with_reducible refine (op_calls 8 q y m _ HM.out).mono ?_); rintro e w' ⟨rfl, ⟨nd, rfl⟩⟩)) | (go_at_call 14; ((with_reducible refine (op_calls 6 m 0 x _ HO.out).mono ?_); rintro e w' ⟨rfl, ⟨nd, rfl⟩⟩)) | (go_at_call 15; ((with_reducible refine (HS.out _).mono ?_); rintro e w' ⟨rfl, ⟨nd, rfl⟩⟩)) | (go_at_call 15; ((with_reducible refine (HT.out _).mono ?_); rintro e w' ⟨rfl, ⟨nd, rfl⟩⟩)) | (go_at_call 13; ((with_reducible refine (awake_calls _).mono ?_); rintro e w' ⟨rfl, ⟨nd, rfl⟩⟩)))
    go_ret
    exact ⟨by first | rfl | (simp; done) | (simp; omega) | (have k1 : ¬ x < 0 := (by omega); have k2 : ¬ y < 0 := (by omega); have k3 : ¬ q < 0 := (by omega); simp [k1, k2, k3]), by repeat (first | exact Drawn0.refl _ | apply Drawn0.step)⟩
  · have xm : (x == -2147483648) = true := beq_iff_eq.mpr h1
    have ym : (y == -1) = false := beq_eq_false_iff_ne.mpr h2
    clear h1 h2
    go_enter Try.func4, Try.ntmps4
    go_wp2_with (first | (go_at_call 11; ((with_reducible refine (apply_calls 9 x y q 0 _ HQ.out).mono ?_); rintro e w' ⟨rfl, ⟨nd, rfl⟩⟩)) | (go_at_call 11; ((with_reducible refine (apply_calls 10 x y 0 0 _ HR.out).mono ?_); rintro e w' ⟨rfl, ⟨nd, rfl⟩⟩)) | (go_at_call 14; ((with_reducible refine (op_calls 8 q y m _ HM.out).mono ?_); rintro e w' ⟨rfl, ⟨nd, rfl⟩⟩)) | (go_at_call 14; ((with_reducible refine (op_calls 6 m 0 x _ HO.out).mono ?_); rintro e w' ⟨rfl, ⟨nd, rfl⟩⟩)) | (go_at_call 15; ((with_reducible refine (HS.out _).mono ?_); rintro e w' ⟨rfl, ⟨nd, rfl⟩⟩)) | (go_at_call 15; ((with_reducible refine (HT.out _).mono ?_); rintro e w' ⟨rfl, ⟨nd, rfl⟩⟩)) | (go_at_call 13; ((with_reducible refine (awake_calls _).mono ?_); rintro e w' ⟨rfl, ⟨nd, rfl⟩⟩)))
    go_ret
    exact ⟨by first | rfl | (simp; done) | (simp; omega) | (have k1 : ¬ x < 0 := (by omega); have k2 : ¬ y < 0 := (by omega); have k3 : ¬ q < 0 := (by omega); simp [k1, k2, k3]), by repeat (first | exact Drawn0.refl _ | apply Drawn0.step)⟩

set_option maxRecDepth 100000 in
theorem c_pos_pos_01 (x y r m rs ys : Int) (hq : ap 9 x y = (0, 0)) (hr : ap 10 x y = (r, 0)) (hm : (ap 8 0 y).1 = m) (ho : (ap 6 m r).1 = x) (hx : 0 ≤ x) (hy : 0 < y) (y0 : (y == 0) = false) (r0 : (r == 0) = false) (hrs : 0 ≤ r) (hs : ∀ w, Calls Try.prog 15 #[.int .i32 r] w fun e w' => e = .returned (.int .i64 rs) ∧ Drawn0 w w') (hs2 : ∀ w, Calls Try.prog 15 #[.int .i32 y] w fun e w' => e = .returned (.int .i64 ys) ∧ Drawn0 w w') (hlt : rs < ys) (w : World) :
    Calls Try.prog 4 #[.int .i32 x, .int .i32 y] w fun e w' => e = .returned (.bool true) ∧ Drawn0 w w' := by
  have HQ := Lib.hid hq
  have HR := Lib.hid hr
  have HM := Lib.hid hm
  have HO := Lib.hid ho
  have HS := Lib.hid hs
  have HT := Lib.hid hs2
  clear hq hr hm ho hs hs2
  go_enter Try.func4, Try.ntmps4
  go_wp2_with (first | (go_at_call 11; ((with_reducible refine (apply_calls 9 x y 0 0 _ HQ.out).mono ?_); rintro e w' ⟨rfl, ⟨nd, rfl⟩⟩)) | (go_at_call 11; ((with_reducible refine (apply_calls 10 x y r 0 _ HR.out).mono ?_); rintro e w' ⟨rfl, ⟨nd, rfl⟩⟩)) | (go_at_call 14; ((with_reducible refine (op_calls 8 0 y m _ HM.out).mono ?_); rintro e w' ⟨rfl, ⟨nd, rfl⟩⟩)) | (go_at_call 14; ((with_reducible refine (op_calls 6 m r x _ HO.out).mono ?_); rintro e w' ⟨rfl, ⟨nd, rfl⟩⟩)) | (go_at_call 15; ((with_reducible refine (HS.out _).mono ?_); rintro e w' ⟨rfl, ⟨nd, rfl⟩⟩)) | (go_at_call 15; ((with_reducible refine (HT.out _).mono ?_); rintro e w' ⟨rfl, ⟨nd, rfl⟩⟩)) | (go_at_call 13; ((with_reducible refine (awake_calls _).mono ?_); rintro e w' ⟨rfl, ⟨nd, rfl⟩⟩)))
  go_ret
  exact ⟨by first | rfl | (simp; done) | (simp; omega) | (have k1 : ¬ x < 0 := (by omega); have k2 : ¬ y < 0 := (by omega); have k3 : ¬ q < 0 := (by omega); simp [k1, k2, k3]), by repeat (first | exact Drawn0.refl _ | apply Drawn0.step)⟩

set_option maxRecDepth 100000 in
theorem c_pos_pos_00 (x y q r m rs ys : Int) (hq : ap 9 x y = (q, 0)) (hr : ap 10 x y = (r, 0)) (hm : (ap 8 q y).1 = m) (ho : (ap 6 m r).1 = x) (hx : 0 ≤ x) (hy : 0 < y) (y0 : (y == 0) = false) (r0 : (r == 0) = false) (hrs : 0 ≤ r) (q0 : (q == 0) = false) (hqs : 0 ≤ q) (hmm : (x == -2147483648 && y == -1) = false) (hs : ∀ w, Calls Try.prog 15 #[.int .i32 r] w fun e w' => e = .returned (.int .i64 rs) ∧ Drawn0 w w') (hs2 : ∀ w, Calls Try.prog 15 #[.int .i32 y] w fun e w' => e = .returned (.int .i64 ys) ∧ Drawn0 w w') (hlt : rs < ys) (w : World) :
    Calls Try.prog 4 #[.int .i32 x, .int .i32 y] w fun e w' => e = .returned (.bool true) ∧ Drawn0 w w' := by
  have HQ := Lib.hid hq
  have HR := Lib.hid hr
  have HM := Lib.hid hm
  have HO := Lib.hid ho
  have HS := Lib.hid hs
  have HT := Lib.hid hs2
  clear hq hr hm ho hs hs2
  have hxm : ¬ x = -2147483648 ∨ (x = -2147483648 ∧ ¬ y = -1) := by
    by_cases h : x = -2147483648
    · right; refine ⟨h, fun h2 => ?_⟩; subst h; subst h2; simp at hmm
    · left; exact h
  clear hmm
  rcases hxm with h | ⟨h1, h2⟩
  · have xm : (x == -2147483648) = false := beq_eq_false_iff_ne.mpr h
    clear h
    go_enter Try.func4, Try.ntmps4
    go_wp2_with (first | (go_at_call 11; ((with_reducible refine (apply_calls 9 x y q 0 _ HQ.out).mono ?_); rintro e w' ⟨rfl, ⟨nd, rfl⟩⟩)) | (go_at_call 11; ((with_reducible refine (apply_calls 10 x y r 0 _ HR.out).mono ?_); rintro e w' ⟨rfl, ⟨nd, rfl⟩⟩)) | (go_at_call 14; ((with_reducible refine (op_calls 8 q y m _ HM.out).mono ?_); rintro e w' ⟨rfl, ⟨nd, rfl⟩⟩)) | (go_at_call 14; ((with_reducible refine (op_calls 6 m r x _ HO.out).mono ?_); rintro e w' ⟨rfl, ⟨nd, rfl⟩⟩)) | (go_at_call 15; ((with_reducible refine (HS.out _).mono ?_); rintro e w' ⟨rfl, ⟨nd, rfl⟩⟩)) | (go_at_call 15; ((with_reducible refine (HT.out _).mono ?_); rintro e w' ⟨rfl, ⟨nd, rfl⟩⟩)) | (go_at_call 13; ((with_reducible refine (awake_calls _).mono ?_); rintro e w' ⟨rfl, ⟨nd, rfl⟩⟩)))
    go_ret
    exact ⟨by first | rfl | (simp; done) | (simp; omega) | (have k1 : ¬ x < 0 := (by omega); have k2 : ¬ y < 0 := (by omega); have k3 : ¬ q < 0 := (by omega); simp [k1, k2, k3]), by repeat (first | exact Drawn0.refl _ | apply Drawn0.step)⟩
  · have xm : (x == -2147483648) = true := beq_iff_eq.mpr h1
    have ym : (y == -1) = false := beq_eq_false_iff_ne.mpr h2
    clear h1 h2
    go_enter Try.func4, Try.ntmps4
    go_wp2_with (first | (go_at_call 11; ((with_reducible refine (apply_calls 9 x y q 0 _ HQ.out).mono ?_); rintro e w' ⟨rfl, ⟨nd, rfl⟩⟩)) | (go_at_call 11; ((with_reducible refine (apply_calls 10 x y r 0 _ HR.out).mono ?_); rintro e w' ⟨rfl, ⟨nd, rfl⟩⟩)) | (go_at_call 14; ((with_reducible refine (op_calls 8 q y m _ HM.out).mono ?_); rintro e w' ⟨rfl, ⟨nd, rfl⟩⟩)) | (go_at_call 14; ((with_reducible refine (op_calls 6 m r x _ HO.out).mono ?_); rintro e w' ⟨rfl, ⟨nd, rfl⟩⟩)) | (go_at_call 15; ((with_reducible refine (HS.out _).mono ?_); rintro e w' ⟨rfl, ⟨nd, rfl⟩⟩)) | (go_at_call 15; ((with_reducible refine (HT.out _).mono ?_); rintro e w' ⟨rfl, ⟨nd, rfl⟩⟩)) | (go_at_call 13; ((with_reducible refine (awake_calls _).mono ?_); rintro e w' ⟨rfl, ⟨nd, rfl⟩⟩)))
    go_ret
    exact ⟨by first | rfl | (simp; done) | (simp; omega) | (have k1 : ¬ x < 0 := (by omega); have k2 : ¬ y < 0 := (by omega); have k3 : ¬ q < 0 := (by omega); simp [k1, k2, k3]), by repeat (first | exact Drawn0.refl _ | apply Drawn0.step)⟩

theorem size_of (n : Int) (h0 : -2147483648 ≤ n) (h1 : n ≤ 2147483647) (w : World) :
    Calls Try.prog 15 #[.int .i32 n] w fun e w' => e = .returned (.int .i64 (n.natAbs : Int)) ∧ Drawn0 w w' :=
  size_calls n _ h0 h1 (by omega) w

theorem parts (x y : Int) (hy : y ≠ 0) (hx0 : -2147483648 ≤ x) (hx1 : x ≤ 2147483647) (hm : ¬ (x = -2147483648 ∧ y = -1)) :
    ap 9 x y = (Int.tdiv x y, 0) ∧ ap 10 x y = (Int.tmod x y, 0) ∧ (ap 6 (ap 8 (Int.tdiv x y) y).1 (Int.tmod x y)).1 = x := by
  have h1 := tdiv_in x y hx0 hx1
  have h2 := tdiv_small x y hx0 hx1 hy hm
  refine ⟨by rw [ap9 x y hy, wrap32_id h1.1 h2], ap10 x y hy, ?_⟩
  rw [ap8, ap6]
  have e : Int.tdiv x y * y + Int.tmod x y = x := Int.tdiv_mul_add_tmod x y
  have w1 : wrap32 (wrap32 (Int.tdiv x y * y) + Int.tmod x y) = wrap32 (Int.tdiv x y * y + Int.tmod x y) := by
    apply wrap32_congr; rw [Int.add_emod, wrap32_mod, ← Int.add_emod]
  show wrap32 (wrap32 (Int.tdiv x y * y) + Int.tmod x y) = x
  rw [w1, e, wrap32_id hx0 hx1]

theorem signs (x y : Int) (hy : y ≠ 0) :
    (x < 0 → Int.tmod x y ≤ 0) ∧ (0 ≤ x → 0 ≤ Int.tmod x y) ∧ (x < 0 → y < 0 → 0 ≤ Int.tdiv x y) ∧ (x < 0 → 0 < y → Int.tdiv x y ≤ 0) ∧ (0 ≤ x → y < 0 → Int.tdiv x y ≤ 0) ∧ (0 ≤ x → 0 < y → 0 ≤ Int.tdiv x y) ∧ (Int.tmod x y).natAbs < y.natAbs := by
  refine ⟨fun h => ?_, fun h => ?_, fun h h2 => ?_, fun h h2 => ?_, fun h h2 => ?_, fun h h2 => ?_, ?_⟩
  · rw [tmod_neg h]; have := Int.emod_nonneg (-x) hy; omega
  · rw [tmod_pos h]; exact Int.emod_nonneg x hy
  · have e : Int.tdiv x y = Int.tdiv (-x) (-y) := by rw [Int.neg_tdiv, Int.tdiv_neg, Int.neg_neg]
    rw [e]; exact Int.tdiv_nonneg (by omega) (by omega)
  · have e : Int.tdiv x y = -Int.tdiv (-x) y := by rw [Int.neg_tdiv, Int.neg_neg]
    have := Int.tdiv_nonneg (a := -x) (b := y) (by omega) (by omega)
    omega
  · have e : Int.tdiv x y = -Int.tdiv x (-y) := by rw [Int.tdiv_neg, Int.neg_neg]
    have := Int.tdiv_nonneg (a := x) (b := -y) (by omega) (by omega)
    omega
  · exact Int.tdiv_nonneg h (by omega)
  · rw [Int.natAbs_tmod]; exact Nat.mod_lt _ (by omega)

theorem WordDivides_calls (x y : Int) (hx0 : -2147483648 ≤ x) (hx1 : x ≤ 2147483647) (hy0 : -2147483648 ≤ y) (hy1 : y ≤ 2147483647) (w : World) :
    Calls Try.prog 4 #[.int .i32 x, .int .i32 y] w fun e w' => e = .returned (.bool true) ∧ Drawn0 w w' := by
  by_cases hy : y = 0
  · subst hy; exact zero x w
  by_cases hm : x = -2147483648 ∧ y = -1
  · obtain ⟨rfl, rfl⟩ := hm; exact over_ w
  obtain ⟨hq, hr, ho⟩ := parts x y hy hx0 hx1 hm
  obtain ⟨s1, s2, s3, s4, s5, s6, s7⟩ := signs x y hy
  have hb := tmod_in x y hx0 hx1
  have y0 : (y == 0) = false := beq_eq_false_iff_ne.mpr hy
  have hmm : (x == -2147483648 && y == -1) = false := by
    rw [Bool.and_eq_false_iff, beq_eq_false_iff_ne, beq_eq_false_iff_ne]; omega
  have hs : ∀ w, Calls Try.prog 15 #[.int .i32 (Int.tmod x y)] w fun e w' => e = .returned (.int .i64 ((Int.tmod x y).natAbs : Int)) ∧ Drawn0 w w' := fun w => size_of _ hb.1 hb.2 w
  have hs2 : ∀ w, Calls Try.prog 15 #[.int .i32 y] w fun e w' => e = .returned (.int .i64 (y.natAbs : Int)) ∧ Drawn0 w w' := fun w => size_of _ hy0 hy1 w
  have hlt : ((Int.tmod x y).natAbs : Int) < (y.natAbs : Int) := by omega
  generalize Int.tdiv x y = q at *
  generalize Int.tmod x y = r at *
  by_cases hx : x < 0
  · by_cases hy2 : y < 0
    · by_cases hr0 : r = 0
      · subst hr0
        by_cases hq0 : q = 0
        · subst hq0
          exact c_neg_neg_11 x y _ _ _ hq hr rfl ho hx hy2 y0 hs hs2 hlt w
        · exact c_neg_neg_10 x y q _ _ _ hq hr rfl ho hx hy2 y0 (beq_eq_false_iff_ne.mpr hq0) (by omega) hmm hs hs2 hlt w
      · by_cases hq0 : q = 0
        · subst hq0
          exact c_neg_neg_01 x y r _ _ _ hq hr rfl ho hx hy2 y0 (beq_eq_false_iff_ne.mpr hr0) (by omega) hs hs2 hlt w
        · exact c_neg_neg_00 x y q r _ _ _ hq hr rfl ho hx hy2 y0 (beq_eq_false_iff_ne.mpr hr0) (by omega) (beq_eq_false_iff_ne.mpr hq0) (by omega) hmm hs hs2 hlt w
    · by_cases hr0 : r = 0
      · subst hr0
        by_cases hq0 : q = 0
        · subst hq0
          exact c_neg_pos_11 x y _ _ _ hq hr rfl ho hx (by omega) y0 hs hs2 hlt w
        · exact c_neg_pos_10 x y q _ _ _ hq hr rfl ho hx (by omega) y0 (beq_eq_false_iff_ne.mpr hq0) (by omega) hmm hs hs2 hlt w
      · by_cases hq0 : q = 0
        · subst hq0
          exact c_neg_pos_01 x y r _ _ _ hq hr rfl ho hx (by omega) y0 (beq_eq_false_iff_ne.mpr hr0) (by omega) hs hs2 hlt w
        · exact c_neg_pos_00 x y q r _ _ _ hq hr rfl ho hx (by omega) y0 (beq_eq_false_iff_ne.mpr hr0) (by omega) (beq_eq_false_iff_ne.mpr hq0) (by omega) hmm hs hs2 hlt w
  · by_cases hy2 : y < 0
    · by_cases hr0 : r = 0
      · subst hr0
        by_cases hq0 : q = 0
        · subst hq0
          exact c_pos_neg_11 x y _ _ _ hq hr rfl ho (by omega) hy2 y0 hs hs2 hlt w
        · exact c_pos_neg_10 x y q _ _ _ hq hr rfl ho (by omega) hy2 y0 (beq_eq_false_iff_ne.mpr hq0) (by omega) hmm hs hs2 hlt w
      · by_cases hq0 : q = 0
        · subst hq0
          exact c_pos_neg_01 x y r _ _ _ hq hr rfl ho (by omega) hy2 y0 (beq_eq_false_iff_ne.mpr hr0) (by omega) hs hs2 hlt w
        · exact c_pos_neg_00 x y q r _ _ _ hq hr rfl ho (by omega) hy2 y0 (beq_eq_false_iff_ne.mpr hr0) (by omega) (beq_eq_false_iff_ne.mpr hq0) (by omega) hmm hs hs2 hlt w
    · by_cases hr0 : r = 0
      · subst hr0
        by_cases hq0 : q = 0
        · subst hq0
          exact c_pos_pos_11 x y _ _ _ hq hr rfl ho (by omega) (by omega) y0 hs hs2 hlt w
        · exact c_pos_pos_10 x y q _ _ _ hq hr rfl ho (by omega) (by omega) y0 (beq_eq_false_iff_ne.mpr hq0) (by omega) hmm hs hs2 hlt w
      · by_cases hq0 : q = 0
        · subst hq0
          exact c_pos_pos_01 x y r _ _ _ hq hr rfl ho (by omega) (by omega) y0 (beq_eq_false_iff_ne.mpr hr0) (by omega) hs hs2 hlt w
        · exact c_pos_pos_00 x y q r _ _ _ hq hr rfl ho (by omega) (by omega) y0 (beq_eq_false_iff_ne.mpr hr0) (by omega) (beq_eq_false_iff_ne.mpr hq0) (by omega) hmm hs hs2 hlt w

end Go.Proofs.Ytjddfmbdollcnaa.WalkDivides
