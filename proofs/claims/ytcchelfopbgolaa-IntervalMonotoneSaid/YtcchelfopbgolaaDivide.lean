/- Contracts of corners at its four functions, of the closures of decide, and of divide. Conditions: as each theorem says. -/
import Derived.Test.YtcchelfopbgolaaCorners
namespace Go.Proofs.Ytcchelfopbgolaa.Divide
open Go.RowKit Go.Proofs.Ytcchelfopbgolaa.PIntervalSets Go.Proofs.YtcchelfopbgolaaW.PrintWords Go.Proofs.YtcchelfopbgolaaW.PrintLast Go.Proofs.YtcchelfopbgolaaW.PrintMore
open Go.Proofs.YtcchelfopbgolaaPlain Base Blocks Small Corners
set_option linter.unusedSimpArgs false
set_option linter.unusedVariables false

theorem add_c (a b c d : Int) (ha : -2147483648 ≤ a) (ha1 : a ≤ 2147483647) (hb : -2147483648 ≤ b) (hb1 : b ≤ 2147483647) (hc : -2147483648 ≤ c) (hc1 : c ≤ 2147483647) (hd : -2147483648 ≤ d) (hd1 : d ≤ 2147483647) (w : World) : Calls Try.prog 29 #[.agg #[.int .i32 a, .int .i32 b], .agg #[.int .i32 c, .int .i32 d], .func (Fn.func 30) #[] #[]] w fun e w' => e = .returned (.agg #[.int .i32 (cor (fun x y => x + y) a b c d).1, .int .i32 (cor (fun x y => x + y) a b c d).2]) ∧ Below w.heap.size w w' :=
  corners30_c a b c d _ _ _ _ ha ha1 hb hb1 hc hc1 hd hd1 (fun w => f30_c _ _ _ w (wrap64_id (by omega) (by omega))) (fun w => f30_c _ _ _ w (wrap64_id (by omega) (by omega))) (fun w => f30_c _ _ _ w (wrap64_id (by omega) (by omega))) (fun w => f30_c _ _ _ w (wrap64_id (by omega) (by omega))) w
theorem sub_c (a b c d : Int) (ha : -2147483648 ≤ a) (ha1 : a ≤ 2147483647) (hb : -2147483648 ≤ b) (hb1 : b ≤ 2147483647) (hc : -2147483648 ≤ c) (hc1 : c ≤ 2147483647) (hd : -2147483648 ≤ d) (hd1 : d ≤ 2147483647) (w : World) : Calls Try.prog 29 #[.agg #[.int .i32 a, .int .i32 b], .agg #[.int .i32 c, .int .i32 d], .func (Fn.func 31) #[] #[]] w fun e w' => e = .returned (.agg #[.int .i32 (cor (fun x y => x - y) a b c d).1, .int .i32 (cor (fun x y => x - y) a b c d).2]) ∧ Below w.heap.size w w' :=
  corners31_c a b c d _ _ _ _ ha ha1 hb hb1 hc hc1 hd hd1 (fun w => f31_c _ _ _ w (wrap64_id (by omega) (by omega))) (fun w => f31_c _ _ _ w (wrap64_id (by omega) (by omega))) (fun w => f31_c _ _ _ w (wrap64_id (by omega) (by omega))) (fun w => f31_c _ _ _ w (wrap64_id (by omega) (by omega))) w
theorem wmul (x y : Int) (hx0 : -2147483648 ≤ x) (hx1 : x ≤ 2147483647) (hy0 : -2147483648 ≤ y) (hy1 : y ≤ 2147483647) : wrap64 (x * y) = x * y := by
  have := mul_in x y hx0 hx1 hy0 hy1
  exact wrap64_id (by omega) (by omega)
theorem mul_c (a b c d : Int) (ha : -2147483648 ≤ a) (ha1 : a ≤ 2147483647) (hb : -2147483648 ≤ b) (hb1 : b ≤ 2147483647) (hc : -2147483648 ≤ c) (hc1 : c ≤ 2147483647) (hd : -2147483648 ≤ d) (hd1 : d ≤ 2147483647) (w : World) : Calls Try.prog 29 #[.agg #[.int .i32 a, .int .i32 b], .agg #[.int .i32 c, .int .i32 d], .func (Fn.func 32) #[] #[]] w fun e w' => e = .returned (.agg #[.int .i32 (cor (fun x y => x * y) a b c d).1, .int .i32 (cor (fun x y => x * y) a b c d).2]) ∧ Below w.heap.size w w' :=
  corners32_c a b c d _ _ _ _ ha ha1 hb hb1 hc hc1 hd hd1 (fun w => f32_c _ _ _ w (wmul a c ha ha1 hc hc1)) (fun w => f32_c _ _ _ w (wmul a d ha ha1 hd hd1)) (fun w => f32_c _ _ _ w (wmul b c hb hb1 hc hc1)) (fun w => f32_c _ _ _ w (wmul b d hb hb1 hd hd1)) w
theorem wdiv (x y : Int) (hx0 : -2147483648 ≤ x) (hx1 : x ≤ 2147483647) : wrap64 (Int.tdiv x y) = Int.tdiv x y := by
  have := tdiv_in x y hx0 hx1
  exact wrap64_id (by omega) (by omega)
theorem quo_c (a b c d : Int) (ha : -2147483648 ≤ a) (ha1 : a ≤ 2147483647) (hb : -2147483648 ≤ b) (hb1 : b ≤ 2147483647) (hc : -2147483648 ≤ c) (hc1 : c ≤ 2147483647) (hd : -2147483648 ≤ d) (hd1 : d ≤ 2147483647) (hc0 : c ≠ 0) (hd0 : d ≠ 0) (w : World) : Calls Try.prog 29 #[.agg #[.int .i32 a, .int .i32 b], .agg #[.int .i32 c, .int .i32 d], .func (Fn.func 56) #[] #[]] w fun e w' => e = .returned (.agg #[.int .i32 (cor Int.tdiv a b c d).1, .int .i32 (cor Int.tdiv a b c d).2]) ∧ Below w.heap.size w w' :=
  corners56_c a b c d _ _ _ _ ha ha1 hb hb1 hc hc1 hd hd1 (fun w => f56_c _ _ _ w hc0 (wdiv a c ha ha1)) (fun w => f56_c _ _ _ w hd0 (wdiv a d ha ha1)) (fun w => f56_c _ _ _ w hc0 (wdiv b c hb hb1)) (fun w => f56_c _ _ _ w hd0 (wdiv b d hb hb1)) w

theorem contains_r (a b n : Int) (r : Bool) (h : ct a b n = r) (w : World) :
    Calls Try.prog 15 #[.agg #[.int .i32 a, .int .i32 b], .int .i32 n] w fun e w' => e = .returned (.bool r) ∧ Below w.heap.size w w' := by
  have := contains_c a b n w
  rwa [h] at this
theorem isEmpty_r (a b : Int) (r : Bool) (h : decide (a > b) = r) (w : World) :
    Calls Try.prog 17 #[.agg #[.int .i32 a, .int .i32 b]] w fun e w' => e = .returned (.bool r) ∧ Below w.heap.size w w' := by
  have := isEmpty_c a b w
  rwa [h] at this

theorem none_1 (a b : Int) (w : World) (h : (a == 0) = false) : Calls Try.prog 59 #[.agg #[.int .i32 a, .int .i32 b]] w fun e w' => e = .returned (.bool false) ∧ Below w.heap.size w w' := by
  have F := Fr.one w 23 #[.int .i32 a, .int .i32 b]
  obtain ⟨p0, q0, f0, g0⟩ := F.pair0 23 _ _ rfl
  have hu23 := Try.underlying23
  go_enter Try.func59, Try.ntmps59
  go_wp2_with fail
  go_region_held3 (fun w' => w'.cell? ⟨w.heap.size, 0, none⟩ = some (.int .i32 a) ∧ w'.cell? ⟨w.heap.size, 1, none⟩ = some (.int .i32 b))
    (first | go_keep | exact ⟨p0, q0⟩)
    (first | (go_at_call 27; ((with_reducible refine (of_c _ _).mono ?_); rintro e w1 ⟨rfl, hb⟩; have F : Fr w w1 [(23, #[.int .i32 a, .int .i32 b])] := (by first | exact F.call hb | exact (F.drewN _).call hb | exact F.drew.call hb | exact (F.alloc _).call hb); obtain ⟨p0, q0, f0, g0⟩ := F.pair0 23 _ _ rfl)))
  go_wp2
  go_ret
  exact ⟨rfl, F.below⟩
theorem none_2 (b : Int) (w : World) (h : (b == 0) = false) : Calls Try.prog 59 #[.agg #[.int .i32 0, .int .i32 b]] w fun e w' => e = .returned (.bool false) ∧ Below w.heap.size w w' := by
  have F := Fr.one w 23 #[.int .i32 0, .int .i32 b]
  obtain ⟨p0, q0, f0, g0⟩ := F.pair0 23 _ _ rfl
  have hu23 := Try.underlying23
  go_enter Try.func59, Try.ntmps59
  go_wp2_with fail
  go_region_held3 (fun w' => w'.cell? ⟨w.heap.size, 0, none⟩ = some (.int .i32 0) ∧ w'.cell? ⟨w.heap.size, 1, none⟩ = some (.int .i32 b))
    (first | go_keep | exact ⟨p0, q0⟩)
    (first | (go_at_call 27; ((with_reducible refine (of_c _ _).mono ?_); rintro e w1 ⟨rfl, hb⟩; have F : Fr w w1 [(23, #[.int .i32 0, .int .i32 b])] := (by first | exact F.call hb | exact (F.drewN _).call hb | exact F.drew.call hb | exact (F.alloc _).call hb); obtain ⟨p0, q0, f0, g0⟩ := F.pair0 23 _ _ rfl)))
  go_wp2
  go_ret
  exact ⟨rfl, F.below⟩
theorem none_3 (w : World) : Calls Try.prog 59 #[.agg #[.int .i32 0, .int .i32 0]] w fun e w' => e = .returned (.bool true) ∧ Below w.heap.size w w' := by
  have F := Fr.one w 23 #[.int .i32 0, .int .i32 0]
  obtain ⟨p0, q0, f0, g0⟩ := F.pair0 23 _ _ rfl
  have hu23 := Try.underlying23
  go_enter Try.func59, Try.ntmps59
  go_wp2_with fail
  go_region_held3 (fun w' => w'.cell? ⟨w.heap.size, 0, none⟩ = some (.int .i32 0) ∧ w'.cell? ⟨w.heap.size, 1, none⟩ = some (.int .i32 0))
    (first | go_keep | exact ⟨p0, q0⟩)
    (first | (go_at_call 27; ((with_reducible refine (of_c _ _).mono ?_); rintro e w1 ⟨rfl, hb⟩; have F : Fr w w1 [(23, #[.int .i32 0, .int .i32 0])] := (by first | exact F.call hb | exact (F.drewN _).call hb | exact F.drew.call hb | exact (F.alloc _).call hb); obtain ⟨p0, q0, f0, g0⟩ := F.pair0 23 _ _ rfl)))
  go_wp2
  go_ret
  exact ⟨rfl, F.below⟩
theorem none_c (a b : Int) (r : Bool) (h : (a == 0 && b == 0) = r) (w : World) : Calls Try.prog 59 #[.agg #[.int .i32 a, .int .i32 b]] w fun e w' => e = .returned (.bool r) ∧ Below w.heap.size w w' := by
  by_cases ha : a = 0
  · subst ha
    by_cases hb : b = 0
    · subst hb; subst h; exact none_3 w
    · have h2 : (b == 0) = false := beq_eq_false_iff_ne.mpr hb
      rw [h2] at h; subst h; exact none_2 b w h2
  · have h2 : (a == 0) = false := beq_eq_false_iff_ne.mpr ha
    rw [h2] at h; subst h; exact none_1 a b w h2
theorem some_c (a b : Int) (r : Bool) (h : (!ct a b 0) = r) (w : World) : Calls Try.prog 58 #[.agg #[.int .i32 a, .int .i32 b]] w fun e w' => e = .returned (.bool r) ∧ Below w.heap.size w w' := by
  subst h
  have F := Fr.one w 23 #[.int .i32 a, .int .i32 b]
  go_enter Try.func58, Try.ntmps58
  go_wp2_with (go_at_call 15; ((with_reducible refine (contains_c _ _ _ _).mono ?_); rintro e w1 ⟨rfl, hb⟩; have F : Fr w w1 [(23, #[.int .i32 a, .int .i32 b])] := (by first | exact F.call hb | exact (F.drewN _).call hb | exact F.drew.call hb | exact (F.alloc _).call hb); obtain ⟨p0, q0, f0, g0⟩ := F.pair0 23 _ _ rfl))
  go_ret
  exact ⟨rfl, F.below⟩

end Go.Proofs.Ytcchelfopbgolaa.Divide
