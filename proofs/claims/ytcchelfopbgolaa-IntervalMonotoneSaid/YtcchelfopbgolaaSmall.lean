/- Contracts of small functions of package interval. Conditions: as each theorem says. -/
import Derived.Test.YtcchelfopbgolaaFrame
namespace Go.Proofs.Ytcchelfopbgolaa.Small
open Go.RowKit Go.Proofs.Ytcchelfopbgolaa.PIntervalSets Go.Proofs.YtcchelfopbgolaaW.PrintWords Go.Proofs.YtcchelfopbgolaaW.PrintLast Go.Proofs.YtcchelfopbgolaaW.PrintMore
open Go.Proofs.YtcchelfopbgolaaPlain Base Blocks
set_option linter.unusedSimpArgs false
set_option linter.unusedVariables false

theorem truth_c (p q : Bool) (w : World) : Calls Try.prog 60 #[.bool p, .bool q] w fun e w' => e = .returned (.agg #[.int .i32 (tru p q).1, .int .i32 (tru p q).2]) ∧ Below w.heap.size w w' := by
  have F := Fr.one w 23 #[.int .i32 0, .int .i32 0]
  cases p
  · cases q
    · go_enter Try.func60, Try.ntmps60
      go_wp2
      have F := Fr.one w 23 #[.int .i32 0, .int .i32 1]
      exact bodyPost_ret (results_cell_row rfl _ _ (w.heap.size) 23 #[.int .i32 0, .int .i32 1] (0, 0) _ rfl (F.blk0 23 _ rfl) Try.underlying23 rfl (by kernel_rfl)) rfl ⟨rfl, F.below⟩
    · go_enter Try.func60, Try.ntmps60
      go_wp2_with (go_at_call 27; ((with_reducible refine (of_c _ _).mono ?_); rintro e w1 ⟨rfl, hb⟩; have F : Fr w w1 [(23, #[.int .i32 0, .int .i32 0])] := (by first | exact F.call hb | exact (F.drewN _).call hb | exact F.drew.call hb | exact (F.alloc _).call hb); obtain ⟨p0, q0, f0, g0⟩ := F.pair0 23 _ _ rfl))
      have F := F.put0 23 _ _ rfl (.int .i32 0) (.int .i32 0)
      exact bodyPost_ret (results_cell_row rfl _ _ (w.heap.size) 23 #[.int .i32 0, .int .i32 0] (0, 0) _ rfl (F.blk0 23 _ rfl) Try.underlying23 rfl (by kernel_rfl)) rfl ⟨rfl, F.below⟩
  · go_enter Try.func60, Try.ntmps60
    go_wp2_with (go_at_call 27; ((with_reducible refine (of_c _ _).mono ?_); rintro e w1 ⟨rfl, hb⟩; have F : Fr w w1 [(23, #[.int .i32 0, .int .i32 0])] := (by first | exact F.call hb | exact (F.drewN _).call hb | exact F.drew.call hb | exact (F.alloc _).call hb); obtain ⟨p0, q0, f0, g0⟩ := F.pair0 23 _ _ rfl))
    have F := F.put0 23 _ _ rfl (.int .i32 1) (.int .i32 1)
    exact bodyPost_ret (results_cell_row rfl _ _ (w.heap.size) 23 #[.int .i32 1, .int .i32 1] (0, 0) _ rfl (F.blk0 23 _ rfl) Try.underlying23 rfl (by kernel_rfl)) rfl ⟨rfl, F.below⟩

theorem cnt_eq (y : Int) : cnt y = (y % 32).toNat := by unfold cnt; omega
theorem ret_int {k : IntKind} {a b : Int} (h : a = b) : Ending.returned (.int k a) = .returned (.int k b) := by rw [h]

theorem right_c (a b c d : Int) (w : World) : Calls Try.prog 39 #[.agg #[.int .i32 a, .int .i32 b], .agg #[.int .i32 c, .int .i32 d]] w fun e w' => e = .returned (.agg #[.int .i32 (rgt a b c d).1, .int .i32 (rgt a b c d).2]) ∧ Below w.heap.size w w' := by
  by_cases h : c = d
  · subst h
    have e1 : rgt a b c c = (a / 2 ^ (c % 32).toNat, b / 2 ^ (c % 32).toNat) := by unfold rgt; rw [if_pos rfl, cnt_eq]
    rw [e1]
    go_enter Try.func39, Try.ntmps39
    go_wp2
    have F := Fr.three w 23 #[.int .i32 a, .int .i32 b] 23 #[.int .i32 c, .int .i32 c] 23 #[.int .i32 (a / 2 ^ (c % 32).toNat), .int .i32 (b / 2 ^ (c % 32).toNat)]
    exact bodyPost_ret (results_cell_row rfl _ _ (w.heap.size + 1 + 1) 23 #[.int .i32 (a / 2 ^ (c % 32).toNat), .int .i32 (b / 2 ^ (c % 32).toNat)] (0, 0) _ rfl (F.blk2 23 _ rfl) Try.underlying23 rfl (by kernel_rfl)) rfl ⟨rfl, F.below⟩
  · have hb1 : (c == d) = false := beq_eq_false_iff_ne.mpr h
    have e1 : rgt a b c d = (if a ≥ 0 then 0 else a, if b < 0 then -1 else b) := by simp [rgt, h]
    rw [e1]
    clear e1
    by_cases h1 : a ≥ 0
    · by_cases h2 : b < 0
      · rw [if_pos h1, if_pos h2]
        go_enter Try.func39, Try.ntmps39
        go_wp2
        have F := Fr.three w 23 #[.int .i32 0, .int .i32 (-1)] 23 #[.int .i32 c, .int .i32 d] 23 #[.int .i32 0, .int .i32 (-1)]
        exact bodyPost_ret (results_cell_row rfl _ _ (w.heap.size + 1 + 1) 23 #[.int .i32 0, .int .i32 (-1)] (0, 0) _ rfl (F.blk2 23 _ rfl) Try.underlying23 rfl (by kernel_rfl)) rfl ⟨rfl, F.below⟩
      · rw [if_pos h1, if_neg h2]
        go_enter Try.func39, Try.ntmps39
        go_wp2
        have F := Fr.three w 23 #[.int .i32 0, .int .i32 b] 23 #[.int .i32 c, .int .i32 d] 23 #[.int .i32 0, .int .i32 b]
        exact bodyPost_ret (results_cell_row rfl _ _ (w.heap.size + 1 + 1) 23 #[.int .i32 0, .int .i32 b] (0, 0) _ rfl (F.blk2 23 _ rfl) Try.underlying23 rfl (by kernel_rfl)) rfl ⟨rfl, F.below⟩
    · by_cases h2 : b < 0
      · rw [if_neg h1, if_pos h2]
        go_enter Try.func39, Try.ntmps39
        go_wp2
        have F := Fr.three w 23 #[.int .i32 a, .int .i32 (-1)] 23 #[.int .i32 c, .int .i32 d] 23 #[.int .i32 a, .int .i32 (-1)]
        exact bodyPost_ret (results_cell_row rfl _ _ (w.heap.size + 1 + 1) 23 #[.int .i32 a, .int .i32 (-1)] (0, 0) _ rfl (F.blk2 23 _ rfl) Try.underlying23 rfl (by kernel_rfl)) rfl ⟨rfl, F.below⟩
      · rw [if_neg h1, if_neg h2]
        go_enter Try.func39, Try.ntmps39
        go_wp2
        have F := Fr.three w 23 #[.int .i32 a, .int .i32 b] 23 #[.int .i32 c, .int .i32 d] 23 #[.int .i32 a, .int .i32 b]
        exact bodyPost_ret (results_cell_row rfl _ _ (w.heap.size + 1 + 1) 23 #[.int .i32 a, .int .i32 b] (0, 0) _ rfl (F.blk2 23 _ rfl) Try.underlying23 rfl (by kernel_rfl)) rfl ⟨rfl, F.below⟩

theorem has_c (a b n : Int) (w : World) : Calls Try.prog 16 #[.agg #[.int .i32 a, .int .i32 b], .int .i32 n] w fun e w' => e = .returned (.bool (ct a b n)) ∧ Below w.heap.size w w' := by
  have F := Fr.one w 23 #[.int .i32 a, .int .i32 b]
  by_cases h : n ≥ a
  · have e1 : ct a b n = decide (n ≤ b) := by unfold ct; simp; omega
    rw [e1]
    clear e1
    go_enter Try.func16, Try.ntmps16
    go_wp2
    go_ret
    exact ⟨rfl, F.below⟩
  · have e1 : ct a b n = false := by unfold ct; simp; omega
    rw [e1]
    clear e1
    go_enter Try.func16, Try.ntmps16
    go_wp2
    go_ret
    exact ⟨rfl, F.below⟩

section
attribute [local go_sem] max2_int min2_int max_two min_two
theorem clamp_c (a b n : Int) (w : World) : Calls Try.prog 23 #[.agg #[.int .i32 a, .int .i32 b], .int .i32 n] w fun e w' => e = .returned (.int .i32 (min (max n a) b)) ∧ Below w.heap.size w w' := by
  have F := Fr.one w 23 #[.int .i32 a, .int .i32 b]
  go_enter Try.func23, Try.ntmps23
  go_wp2
  all_goals
    go_ret
    exact ⟨ret_int (by omega), F.below⟩
end

theorem mk_c (a b : Int) (w : World) : Calls Try.prog 28 #[.int .i32 a, .int .i32 b] w fun e w' => e = .returned (.agg #[.int .i32 a, .int .i32 b]) ∧ Below w.heap.size w w' := by
  go_enter Try.func28, Try.ntmps28
  go_wp2
  have F := Fr.one w 23 #[.int .i32 a, .int .i32 b]
  exact bodyPost_ret (results_cell_row rfl _ _ (w.heap.size) 23 #[.int .i32 a, .int .i32 b] (0, 0) _ rfl (F.blk0 23 _ rfl) Try.underlying23 rfl (by kernel_rfl)) rfl ⟨rfl, F.below⟩

theorem flip_c (a b : Int) (w : World) : Calls Try.prog 26 #[.agg #[.int .i32 a, .int .i32 b]] w fun e w' => e = .returned (.agg #[.int .i32 (wrap32 (1 - b)), .int .i32 (wrap32 (1 - a))]) ∧ Below w.heap.size w w' := by
  go_enter Try.func26, Try.ntmps26
  go_wp2
  have F := Fr.two w 23 #[.int .i32 a, .int .i32 b] 23 #[.int .i32 (wrap32 (1 - b)), .int .i32 (wrap32 (1 - a))]
  exact bodyPost_ret (results_cell_row rfl _ _ (w.heap.size + 1) 23 #[.int .i32 (wrap32 (1 - b)), .int .i32 (wrap32 (1 - a))] (0, 0) _ rfl (F.blk1 23 _ rfl) Try.underlying23 rfl (by kernel_rfl)) rfl ⟨rfl, F.below⟩

theorem f30_c (x y r : Int) (w : World) (h : wrap64 (x + y) = r) : Calls Try.prog 30 #[.int .i64 x, .int .i64 y] w fun e w' => e = .returned (.int .i64 r) ∧ Drawn0 w w' := by
  subst h
  go_enter Try.func30, Try.ntmps30
  go_wp2
  go_ret
  exact ⟨by first | rfl | (simp; done), Drawn0.refl _⟩

theorem f31_c (x y r : Int) (w : World) (h : wrap64 (x - y) = r) : Calls Try.prog 31 #[.int .i64 x, .int .i64 y] w fun e w' => e = .returned (.int .i64 r) ∧ Drawn0 w w' := by
  subst h
  go_enter Try.func31, Try.ntmps31
  go_wp2
  go_ret
  exact ⟨by first | rfl | (simp; done), Drawn0.refl _⟩

theorem f32_c (x y r : Int) (w : World) (h : wrap64 (x * y) = r) : Calls Try.prog 32 #[.int .i64 x, .int .i64 y] w fun e w' => e = .returned (.int .i64 r) ∧ Drawn0 w w' := by
  subst h
  go_enter Try.func32, Try.ntmps32
  go_wp2
  go_ret
  exact ⟨by first | rfl | (simp; done), Drawn0.refl _⟩

theorem f56_c (x y r : Int) (w : World) (hy : y ≠ 0) (h : wrap64 (Int.tdiv x y) = r) : Calls Try.prog 56 #[.int .i64 x, .int .i64 y] w fun e w' => e = .returned (.int .i64 r) ∧ Drawn0 w w' := by
  subst h
  have hy0 : (y == 0) = false := beq_eq_false_iff_ne.mpr hy
  go_enter Try.func56, Try.ntmps56
  go_wp2
  go_ret
  exact ⟨by first | rfl | (simp; done), Drawn0.refl _⟩

theorem within_c (a b c d : Int) (w : World) : Calls Try.prog 14 #[.agg #[.int .i32 a, .int .i32 b], .agg #[.int .i32 c, .int .i32 d]] w fun e w' => e = .returned (.bool (wi a b c d)) ∧ Below w.heap.size w w' := by
  have F := Fr.two w 23 #[.int .i32 a, .int .i32 b] 23 #[.int .i32 c, .int .i32 d]
  by_cases h1 : a > b
  · have e1 : wi a b c d = true := by unfold wi; simp only [decide_eq_true_eq]; omega
    rw [e1]
    clear e1
    go_enter Try.func14, Try.ntmps14
    go_wp2_with (go_at_call 17; ((with_reducible refine (isEmpty_c _ _ _).mono ?_); rintro e w1 ⟨rfl, hb⟩; have F : Fr w w1 [(23, #[.int .i32 a, .int .i32 b]), (23, #[.int .i32 c, .int .i32 d])] := (by first | exact F.call hb | exact (F.drewN _).call hb | exact F.drew.call hb | exact (F.alloc _).call hb); obtain ⟨p0, q0, f0, g0⟩ := F.pair0 23 _ _ rfl; obtain ⟨p1, q1, f1, g1⟩ := F.pair1 23 _ _ rfl))
    go_ret
    exact ⟨by first | rfl | (simp [*]; done) | (simp [Int.not_lt.mpr h1, Int.not_lt.mpr h2]; done), F.below⟩
  by_cases h2 : c > d
  · have e1 : wi a b c d = false := by unfold wi; simp only [decide_eq_false_iff_not]; omega
    rw [e1]
    clear e1
    go_enter Try.func14, Try.ntmps14
    go_wp2_with (go_at_call 17; ((with_reducible refine (isEmpty_c _ _ _).mono ?_); rintro e w1 ⟨rfl, hb⟩; have F : Fr w w1 [(23, #[.int .i32 a, .int .i32 b]), (23, #[.int .i32 c, .int .i32 d])] := (by first | exact F.call hb | exact (F.drewN _).call hb | exact F.drew.call hb | exact (F.alloc _).call hb); obtain ⟨p0, q0, f0, g0⟩ := F.pair0 23 _ _ rfl; obtain ⟨p1, q1, f1, g1⟩ := F.pair1 23 _ _ rfl))
    go_ret
    exact ⟨by first | rfl | (simp [*]; done) | (simp [Int.not_lt.mpr h1, Int.not_lt.mpr h2]; done), F.below⟩
  by_cases h3 : c ≤ a
  · have e1 : wi a b c d = decide (b ≤ d) := by unfold wi; rw [decide_eq_decide]; omega
    rw [e1]
    clear e1
    go_enter Try.func14, Try.ntmps14
    go_wp2_with (go_at_call 17; ((with_reducible refine (isEmpty_c _ _ _).mono ?_); rintro e w1 ⟨rfl, hb⟩; have F : Fr w w1 [(23, #[.int .i32 a, .int .i32 b]), (23, #[.int .i32 c, .int .i32 d])] := (by first | exact F.call hb | exact (F.drewN _).call hb | exact F.drew.call hb | exact (F.alloc _).call hb); obtain ⟨p0, q0, f0, g0⟩ := F.pair0 23 _ _ rfl; obtain ⟨p1, q1, f1, g1⟩ := F.pair1 23 _ _ rfl))
    go_ret
    exact ⟨by first | rfl | (simp [*]; done) | (simp [Int.not_lt.mpr h1, Int.not_lt.mpr h2]; done), F.below⟩
  · have e1 : wi a b c d = false := by unfold wi; simp only [decide_eq_false_iff_not]; omega
    rw [e1]
    clear e1
    go_enter Try.func14, Try.ntmps14
    go_wp2_with (go_at_call 17; ((with_reducible refine (isEmpty_c _ _ _).mono ?_); rintro e w1 ⟨rfl, hb⟩; have F : Fr w w1 [(23, #[.int .i32 a, .int .i32 b]), (23, #[.int .i32 c, .int .i32 d])] := (by first | exact F.call hb | exact (F.drewN _).call hb | exact F.drew.call hb | exact (F.alloc _).call hb); obtain ⟨p0, q0, f0, g0⟩ := F.pair0 23 _ _ rfl; obtain ⟨p1, q1, f1, g1⟩ := F.pair1 23 _ _ rfl))
    go_ret
    exact ⟨by first | rfl | (simp [*]; done) | (simp [Int.not_lt.mpr h1, Int.not_lt.mpr h2]; done), F.below⟩

end Go.Proofs.Ytcchelfopbgolaa.Small
