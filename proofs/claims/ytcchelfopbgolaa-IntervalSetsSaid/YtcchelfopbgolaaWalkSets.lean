/- The walk of the law IntervalSets: it returns true. Conditions: as each theorem says. -/
import Derived.Test.YtcchelfopbgolaaBits
namespace Go.Proofs.Ytcchelfopbgolaa.Sets
open Go.RowKit Go.Proofs.Ytcchelfopbgolaa.PIntervalSets Go.Proofs.YtcchelfopbgolaaW.PrintWords Go.Proofs.YtcchelfopbgolaaW.PrintLast Go.Proofs.YtcchelfopbgolaaW.PrintMore
open Go.Proofs.YtcchelfopbgolaaPlain Base Blocks Small Corners Divide Divides Decide Apply Awake
set_option linter.unusedSimpArgs false
set_option linter.unusedVariables false

theorem within_r (a b c d : Int) (r : Bool) (h : wi a b c d = r) (w : World) : Calls Try.prog 14 #[.agg #[.int .i32 a, .int .i32 b], .agg #[.int .i32 c, .int .i32 d]] w fun e w' => e = .returned (.bool r) ∧ Below w.heap.size w w' := by
  have := within_c a b c d w
  rwa [h] at this
theorem has_r (a b n : Int) (r : Bool) (h : ct a b n = r) (w : World) : Calls Try.prog 16 #[.agg #[.int .i32 a, .int .i32 b], .int .i32 n] w fun e w' => e = .returned (.bool r) ∧ Below w.heap.size w w' := by
  have := has_c a b n w
  rwa [h] at this

set_option maxRecDepth 100000 in
set_option maxHeartbeats 8000000 in
theorem sets_gt (a b c d n : Int) (r : Bool) (hr : ct a b n = r) (hg : b < a) (hw : wi a b c d = true) (ha : -2147483648 ≤ a) (hb1 : b ≤ 2147483647) (hn : -2147483648 ≤ n) (hn1 : n ≤ 2147483647) (w : World) :
    Calls Try.prog 10 #[.agg #[.int .i32 a, .int .i32 b], .agg #[.int .i32 c, .int .i32 d], .int .i32 n] w fun e w' => e = .returned (.bool true) ∧ Below w.heap.size w w' := by
  have X1 := Lib.hid (show ct (-2147483648) 2147483647 n = true by unfold ct; simp only [decide_eq_true_eq]; omega)
  have X2 := Lib.hid (show ct 1 0 n = false by unfold ct; simp only [decide_eq_false_iff_not]; omega)
  have X3 := Lib.hid (show wi a b a b = true by unfold wi; simp only [decide_eq_true_eq]; omega)
  have X4 := Lib.hid (show wi 1 0 a b = true by unfold wi; simp only [decide_eq_true_eq]; omega)
  have X5 := Lib.hid (show wi a b (-2147483648) 2147483647 = true by unfold wi; simp only [decide_eq_true_eq]; omega)
  have X6 := Lib.hid (show decide (a > b) = true by exact decide_eq_true hg)
  have hgb : decide (b < a) = true := decide_eq_true hg
  have HR := Lib.hid hr
  have HW := Lib.hid hw
  clear hr hw
  have F := Fr.two w 23 #[.int .i32 a, .int .i32 b] 23 #[.int .i32 c, .int .i32 d]
  obtain ⟨p0, q0, f0, g0⟩ := F.pair0 23 _ _ rfl; obtain ⟨p1, q1, f1, g1⟩ := F.pair1 23 _ _ rfl
  have hu23 := Try.underlying23
  go_enter Try.func10, Try.ntmps10
  go_wp2_with (first | (go_at_call 13; ((with_reducible refine (awake_c _).mono ?_); rintro e w1 ⟨rfl, hb⟩; have F : Fr w w1 [(23, #[.int .i32 a, .int .i32 b]), (23, #[.int .i32 c, .int .i32 d])] := (by first | exact F.call hb | exact (F.drewN _).call hb | exact F.drew.call hb | exact (F.alloc _).call hb | exact ((F.alloc _).alloc _).call hb | exact (F.drew.alloc _).call hb | exact ((F.drew.alloc _).alloc _).call hb | exact (F.alloc _).drew.call hb | exact ((F.alloc _).alloc _).drew.call hb); obtain ⟨p0, q0, f0, g0⟩ := F.pair0 23 _ _ rfl; obtain ⟨p1, q1, f1, g1⟩ := F.pair1 23 _ _ rfl)) | (go_at_call 27; ((with_reducible refine (of_c _ _).mono ?_); rintro e w1 ⟨rfl, hb⟩; have F : Fr w w1 [(23, #[.int .i32 a, .int .i32 b]), (23, #[.int .i32 c, .int .i32 d])] := (by first | exact F.call hb | exact (F.drewN _).call hb | exact F.drew.call hb | exact (F.alloc _).call hb | exact ((F.alloc _).alloc _).call hb | exact (F.drew.alloc _).call hb | exact ((F.drew.alloc _).alloc _).call hb | exact (F.alloc _).drew.call hb | exact ((F.alloc _).alloc _).drew.call hb); obtain ⟨p0, q0, f0, g0⟩ := F.pair0 23 _ _ rfl; obtain ⟨p1, q1, f1, g1⟩ := F.pair1 23 _ _ rfl)) | (go_at_call 25; ((with_reducible refine (full_c _).mono ?_); rintro e w1 ⟨rfl, hb⟩; have F : Fr w w1 [(23, #[.int .i32 a, .int .i32 b]), (23, #[.int .i32 c, .int .i32 d])] := (by first | exact F.call hb | exact (F.drewN _).call hb | exact F.drew.call hb | exact (F.alloc _).call hb | exact ((F.alloc _).alloc _).call hb | exact (F.drew.alloc _).call hb | exact ((F.drew.alloc _).alloc _).call hb | exact (F.alloc _).drew.call hb | exact ((F.alloc _).alloc _).drew.call hb); obtain ⟨p0, q0, f0, g0⟩ := F.pair0 23 _ _ rfl; obtain ⟨p1, q1, f1, g1⟩ := F.pair1 23 _ _ rfl)) | (go_at_call 15; ((with_reducible refine (contains_r (-2147483648) 2147483647 n _ X1.out _).mono ?_); rintro e w1 ⟨rfl, hb⟩; have F : Fr w w1 [(23, #[.int .i32 a, .int .i32 b]), (23, #[.int .i32 c, .int .i32 d])] := (by first | exact F.call hb | exact (F.drewN _).call hb | exact F.drew.call hb | exact (F.alloc _).call hb | exact ((F.alloc _).alloc _).call hb | exact (F.drew.alloc _).call hb | exact ((F.drew.alloc _).alloc _).call hb | exact (F.alloc _).drew.call hb | exact ((F.alloc _).alloc _).drew.call hb); obtain ⟨p0, q0, f0, g0⟩ := F.pair0 23 _ _ rfl; obtain ⟨p1, q1, f1, g1⟩ := F.pair1 23 _ _ rfl)) | (go_at_call 18; ((with_reducible refine (empty_c _).mono ?_); rintro e w1 ⟨rfl, hb⟩; have F : Fr w w1 [(23, #[.int .i32 a, .int .i32 b]), (23, #[.int .i32 c, .int .i32 d])] := (by first | exact F.call hb | exact (F.drewN _).call hb | exact F.drew.call hb | exact (F.alloc _).call hb | exact ((F.alloc _).alloc _).call hb | exact (F.drew.alloc _).call hb | exact ((F.drew.alloc _).alloc _).call hb | exact (F.alloc _).drew.call hb | exact ((F.alloc _).alloc _).drew.call hb); obtain ⟨p0, q0, f0, g0⟩ := F.pair0 23 _ _ rfl; obtain ⟨p1, q1, f1, g1⟩ := F.pair1 23 _ _ rfl)) | (go_at_call 15; ((with_reducible refine (contains_r 1 0 n _ X2.out _).mono ?_); rintro e w1 ⟨rfl, hb⟩; have F : Fr w w1 [(23, #[.int .i32 a, .int .i32 b]), (23, #[.int .i32 c, .int .i32 d])] := (by first | exact F.call hb | exact (F.drewN _).call hb | exact F.drew.call hb | exact (F.alloc _).call hb | exact ((F.alloc _).alloc _).call hb | exact (F.drew.alloc _).call hb | exact ((F.drew.alloc _).alloc _).call hb | exact (F.alloc _).drew.call hb | exact ((F.alloc _).alloc _).drew.call hb); obtain ⟨p0, q0, f0, g0⟩ := F.pair0 23 _ _ rfl; obtain ⟨p1, q1, f1, g1⟩ := F.pair1 23 _ _ rfl)))
  refine start_ (n := 17) (S := fun w' => w'.cell? ⟨w.heap.size, 0, none⟩ = some (.int .i32 a) ∧ w'.cell? ⟨w.heap.size, 1, none⟩ = some (.int .i32 b)) (ds := []) (bl 17 0) (by kernel_rfl) rfl (by kernel_rfl) ⟨p0, q0⟩ (fun hHeld => ?_)
  have F := F.drew
  refine take_ (i := 0) (N := some 34) (v := ?_) (a' := ?_) (bl 17 1) rfl rfl (by kernel_rfl) (fun _ _ _ h => h) (Or.inl ⟨by rfl, ?_⟩) hHeld ?_ ?_
  rotate_left
  · rintro w' ⟨s0, s1⟩
    go_simp
    with_reducible rfl
  rotate_left
  · simp only [Act.put, List.setIfInBounds_toArray, List.set_cons_zero, List.set_cons_succ, i64_w, i32_w]
    rfl
  refine pure_ (i := 1) (N := some 35) (v := ?_) (a' := ?_) (bl 17 3) rfl rfl (by kernel_rfl) (fun _ _ _ h => h) (Or.inl ⟨by rfl, ?_⟩) ?_ ?_
  rotate_left
  · intro w'
    go_simp
    with_reducible rfl
  rotate_left
  · simp only [Act.put, List.setIfInBounds_toArray, List.set_cons_zero, List.set_cons_succ, i64_w, i32_w]
    rfl
  refine take_ (i := 3) (N := some 37) (v := ?_) (a' := ?_) (bl 17 11) rfl rfl (by kernel_rfl) (fun _ _ _ h => h) (Or.inl ⟨by rfl, ?_⟩) hHeld ?_ ?_
  rotate_left
  · rintro w' ⟨s0, s1⟩
    go_simp
    with_reducible rfl
  rotate_left
  · simp only [Act.put, List.setIfInBounds_toArray, List.set_cons_zero, List.set_cons_succ, i64_w, i32_w]
    rfl
  refine pure_ (i := 4) (N := some 38) (v := ?_) (a' := ?_) (bl 17 27) rfl rfl (by kernel_rfl) (fun _ _ _ h => h) (Or.inl ⟨by rfl, ?_⟩) ?_ ?_
  rotate_left
  · intro w'
    go_simp
    with_reducible rfl
  rotate_left
  · simp only [Act.put, List.setIfInBounds_toArray, List.set_cons_zero, List.set_cons_succ, i64_w, i32_w]
    rfl
  refine one_ (i := 2) (N := some 36) (bl 17 31) rfl rfl (by kernel_rfl) (by decide) (fun K hK => ?_)
  rw [if_pos (by rfl)]
  go_simp
  go_at_call 15
  (with_reducible refine (contains_r a b n _ HR.out _).mono ?_)
  rintro e w1 ⟨rfl, hb⟩
  have F : Fr w w1 [(23, #[.int .i32 a, .int .i32 b]), (23, #[.int .i32 c, .int .i32 d])] := F.call hb
  obtain ⟨p0, q0, f0, g0⟩ := F.pair0 23 _ _ rfl
  obtain ⟨p1, q1, f1, g1⟩ := F.pair1 23 _ _ rfl
  refine hK.out _ _ ⟨p0, q0⟩ (fun hHeld => ?_)
  clear hK K
  refine one_ (i := 5) (N := some 39) (bl 17 63) rfl rfl (by kernel_rfl) (by decide) (fun K hK => ?_)
  rw [if_pos (by rfl)]
  go_simp
  go_at_call 16
  (with_reducible refine (has_r a b n _ HR.out _).mono ?_)
  rintro e w1 ⟨rfl, hb⟩
  have F : Fr w w1 [(23, #[.int .i32 a, .int .i32 b]), (23, #[.int .i32 c, .int .i32 d])] := F.call hb
  obtain ⟨p0, q0, f0, g0⟩ := F.pair0 23 _ _ rfl
  obtain ⟨p1, q1, f1, g1⟩ := F.pair1 23 _ _ rfl
  refine hK.out _ _ ⟨p0, q0⟩ (fun hHeld => ?_)
  clear hK K
  refine pure_ (i := 6) (N := some 40) (v := ?_) (a' := ?_) (bl 17 127) rfl rfl (by kernel_rfl) (fun _ _ _ h => h) (Or.inl ⟨by rfl, ?_⟩) ?_ ?_
  rotate_left
  · intro w'
    go_simp
    with_reducible rfl
  rotate_left
  · simp only [Act.put, List.setIfInBounds_toArray, List.set_cons_zero, List.set_cons_succ, i64_w, i32_w]
    rfl
  refine pure_ (i := 7) (N := some 41) (v := ?_) (a' := ?_) (bl 17 255) rfl rfl (by kernel_rfl) (fun _ _ _ h => h) (Or.inl ⟨by rfl, ?_⟩) ?_ ?_
  rotate_left
  · intro w'
    go_simp
    with_reducible rfl
  rotate_left
  · simp only [Act.put, List.setIfInBounds_toArray, List.set_cons_zero, List.set_cons_succ, i64_w, i32_w]
    rfl
  refine take_ (i := 8) (N := some 42) (v := ?_) (a' := ?_) (bl 17 511) rfl rfl (by kernel_rfl) (fun _ _ _ h => h) (Or.inl ⟨by rfl, ?_⟩) hHeld ?_ ?_
  rotate_left
  · rintro w' ⟨s0, s1⟩
    go_simp
    with_reducible rfl
  rotate_left
  · simp only [Act.put, List.setIfInBounds_toArray, List.set_cons_zero, List.set_cons_succ, i64_w, i32_w]
    rfl
  refine pure_ (i := 10) (N := some 44) (v := ?_) (a' := ?_) (bl 17 1535) rfl rfl (by kernel_rfl) (fun _ _ _ h => h) (Or.inl ⟨by rfl, ?_⟩) ?_ ?_
  rotate_left
  · intro w'
    go_simp
    with_reducible rfl
  rotate_left
  · simp only [Act.put, List.setIfInBounds_toArray, List.set_cons_zero, List.set_cons_succ, i64_w, i32_w]
    rfl
  refine take_ (i := 11) (N := some 45) (v := ?_) (a' := ?_) (bl 17 3583) rfl rfl (by kernel_rfl) (fun _ _ _ h => h) (Or.inl ⟨by rfl, ?_⟩) hHeld ?_ ?_
  rotate_left
  · rintro w' ⟨s0, s1⟩
    go_simp
    with_reducible rfl
  rotate_left
  · simp only [Act.put, List.setIfInBounds_toArray, List.set_cons_zero, List.set_cons_succ, i64_w, i32_w]
    rfl
  refine pure_ (i := 12) (N := some 46) (v := ?_) (a' := ?_) (bl 17 7679) rfl rfl (by kernel_rfl) (fun _ _ _ h => h) (Or.inl ⟨by rfl, ?_⟩) ?_ ?_
  rotate_left
  · intro w'
    go_simp
    with_reducible rfl
  rotate_left
  · simp only [Act.put, List.setIfInBounds_toArray, List.set_cons_zero, List.set_cons_succ, i64_w, i32_w]
    rfl
  refine take_ (i := 13) (N := some 47) (v := ?_) (a' := ?_) (bl 17 15871) rfl rfl (by kernel_rfl) (fun _ _ _ h => h) (Or.inl ⟨by rfl, ?_⟩) hHeld ?_ ?_
  rotate_left
  · rintro w' ⟨s0, s1⟩
    go_simp
    with_reducible rfl
  rotate_left
  · simp only [Act.put, List.setIfInBounds_toArray, List.set_cons_zero, List.set_cons_succ, i64_w, i32_w]
    rfl
  refine pure_ (i := 14) (N := some 48) (v := ?_) (a' := ?_) (bl 17 32255) rfl rfl (by kernel_rfl) (fun _ _ _ h => h) (Or.inl ⟨by rfl, ?_⟩) ?_ ?_
  rotate_left
  · intro w'
    go_simp
    with_reducible rfl
  rotate_left
  · simp only [Act.put, List.setIfInBounds_toArray, List.set_cons_zero, List.set_cons_succ, i64_w, i32_w]
    rfl
  refine one_ (i := 9) (N := some 43) (bl 17 32767) rfl rfl (by kernel_rfl) (by decide) (fun K hK => ?_)
  rw [if_pos (by rfl)]
  go_simp
  go_at_call 17
  (with_reducible refine (isEmpty_r a b _ X6.out _).mono ?_)
  rintro e w1 ⟨rfl, hb⟩
  have F : Fr w w1 [(23, #[.int .i32 a, .int .i32 b]), (23, #[.int .i32 c, .int .i32 d])] := F.call hb
  obtain ⟨p0, q0, f0, g0⟩ := F.pair0 23 _ _ rfl
  obtain ⟨p1, q1, f1, g1⟩ := F.pair1 23 _ _ rfl
  refine hK.out _ _ ⟨p0, q0⟩ (fun hHeld => ?_)
  clear hK K
  refine pure_ (i := 15) (N := some 49) (v := ?_) (a' := ?_) (bl 17 65535) rfl rfl (by kernel_rfl) (fun _ _ _ h => h) (Or.inl ⟨by rfl, ?_⟩) ?_ ?_
  rotate_left
  · intro w'
    go_simp
    with_reducible rfl
  rotate_left
  · simp only [Act.put, List.setIfInBounds_toArray, List.set_cons_zero, List.set_cons_succ, i64_w, i32_w]
    rfl
  refine pure_ (i := 16) (N := some 50) (v := ?_) (a' := ?_) (bl 17 131071) rfl rfl (by kernel_rfl) (fun _ _ _ h => h) (Or.inl ⟨by rfl, ?_⟩) ?_ ?_
  rotate_left
  · intro w'
    go_simp
    with_reducible rfl
  rotate_left
  · simp only [Act.put, List.setIfInBounds_toArray, List.set_cons_zero, List.set_cons_succ, i64_w, i32_w]
    rfl
  refine done_ (by kernel_rfl) ?_
  go_wp2
  refine start_ (n := 21) (S := fun w' => w'.cell? ⟨w.heap.size, 0, none⟩ = some (.int .i32 a) ∧ w'.cell? ⟨w.heap.size, 1, none⟩ = some (.int .i32 b) ∧ w'.cell? ⟨w.heap.size + 1, 0, none⟩ = some (.int .i32 c) ∧ w'.cell? ⟨w.heap.size + 1, 1, none⟩ = some (.int .i32 d)) (ds := []) (bl 21 0) (by kernel_rfl) rfl (by kernel_rfl) ⟨p0, q0, p1, q1⟩ (fun hHeld => ?_)
  have F := F.drew
  refine take_ (i := 0) (N := some 68) (v := ?_) (a' := ?_) (bl 21 1) rfl rfl (by kernel_rfl) (fun _ _ _ h => h) (Or.inl ⟨by rfl, ?_⟩) hHeld ?_ ?_
  rotate_left
  · rintro w' ⟨s0, s1, s2, s3⟩
    go_simp
    with_reducible rfl
  rotate_left
  · simp only [Act.put, List.setIfInBounds_toArray, List.set_cons_zero, List.set_cons_succ, i64_w, i32_w]
    rfl
  refine take_ (i := 1) (N := some 69) (v := ?_) (a' := ?_) (bl 21 3) rfl rfl (by kernel_rfl) (fun _ _ _ h => h) (Or.inl ⟨by rfl, ?_⟩) hHeld ?_ ?_
  rotate_left
  · rintro w' ⟨s0, s1, s2, s3⟩
    go_simp
    with_reducible rfl
  rotate_left
  · simp only [Act.put, List.setIfInBounds_toArray, List.set_cons_zero, List.set_cons_succ, i64_w, i32_w]
    rfl
  refine pure_ (i := 3) (N := some 71) (v := ?_) (a' := ?_) (bl 21 11) rfl rfl (by kernel_rfl) (fun _ _ _ h => h) (Or.inl ⟨by rfl, ?_⟩) ?_ ?_
  rotate_left
  · intro w'
    go_simp
    with_reducible rfl
  rotate_left
  · simp only [Act.put, List.setIfInBounds_toArray, List.set_cons_zero, List.set_cons_succ, i64_w, i32_w]
    rfl
  refine one_ (i := 2) (N := some 70) (bl 21 15) rfl rfl (by kernel_rfl) (by decide) (fun K hK => ?_)
  rw [if_pos (by rfl)]
  go_simp
  go_at_call 14
  (with_reducible refine (within_r a b c d _ HW.out _).mono ?_)
  rintro e w1 ⟨rfl, hb⟩
  have F : Fr w w1 [(23, #[.int .i32 a, .int .i32 b]), (23, #[.int .i32 c, .int .i32 d])] := F.call hb
  obtain ⟨p0, q0, f0, g0⟩ := F.pair0 23 _ _ rfl
  obtain ⟨p1, q1, f1, g1⟩ := F.pair1 23 _ _ rfl
  refine hK.out _ _ ⟨p0, q0, p1, q1⟩ (fun hHeld => ?_)
  clear hK K
  refine pure_ (i := 4) (N := some 72) (v := ?_) (a' := ?_) (bl 21 31) rfl rfl (by kernel_rfl) (fun _ _ _ h => h) (Or.inl ⟨by rfl, ?_⟩) ?_ ?_
  rotate_left
  · intro w'
    go_simp
    with_reducible rfl
  rotate_left
  · simp only [Act.put, List.setIfInBounds_toArray, List.set_cons_zero, List.set_cons_succ, i64_w, i32_w]
    rfl
  refine pure_ (i := 5) (N := some 73) (v := ?_) (a' := ?_) (bl 21 63) rfl rfl (by kernel_rfl) (fun _ _ _ h => h) (Or.inl ⟨by rfl, ?_⟩) ?_ ?_
  rotate_left
  · intro w'
    go_simp
    with_reducible rfl
  rotate_left
  · simp only [Act.put, List.setIfInBounds_toArray, List.set_cons_zero, List.set_cons_succ, i64_w, i32_w]
    rfl
  refine take_ (i := 6) (N := some 74) (v := ?_) (a' := ?_) (bl 21 127) rfl rfl (by kernel_rfl) (fun _ _ _ h => h) (Or.inl ⟨by rfl, ?_⟩) hHeld ?_ ?_
  rotate_left
  · rintro w' ⟨s0, s1, s2, s3⟩
    go_simp
    with_reducible rfl
  rotate_left
  · simp only [Act.put, List.setIfInBounds_toArray, List.set_cons_zero, List.set_cons_succ, i64_w, i32_w]
    rfl
  refine take_ (i := 7) (N := some 75) (v := ?_) (a' := ?_) (bl 21 255) rfl rfl (by kernel_rfl) (fun _ _ _ h => h) (Or.inl ⟨by rfl, ?_⟩) hHeld ?_ ?_
  rotate_left
  · rintro w' ⟨s0, s1, s2, s3⟩
    go_simp
    with_reducible rfl
  rotate_left
  · simp only [Act.put, List.setIfInBounds_toArray, List.set_cons_zero, List.set_cons_succ, i64_w, i32_w]
    rfl
  refine one_ (i := 8) (N := some 76) (bl 21 511) rfl rfl (by kernel_rfl) (by decide) (fun K hK => ?_)
  rw [if_pos (by rfl)]
  go_simp
  go_at_call 14
  (with_reducible refine (within_r a b a b _ X3.out _).mono ?_)
  rintro e w1 ⟨rfl, hb⟩
  have F : Fr w w1 [(23, #[.int .i32 a, .int .i32 b]), (23, #[.int .i32 c, .int .i32 d])] := F.call hb
  obtain ⟨p0, q0, f0, g0⟩ := F.pair0 23 _ _ rfl
  obtain ⟨p1, q1, f1, g1⟩ := F.pair1 23 _ _ rfl
  refine hK.out _ _ ⟨p0, q0, p1, q1⟩ (fun hHeld => ?_)
  clear hK K
  refine pure_ (i := 9) (N := some 77) (v := ?_) (a' := ?_) (bl 21 1023) rfl rfl (by kernel_rfl) (fun _ _ _ h => h) (Or.inl ⟨by rfl, ?_⟩) ?_ ?_
  rotate_left
  · intro w'
    go_simp
    with_reducible rfl
  rotate_left
  · simp only [Act.put, List.setIfInBounds_toArray, List.set_cons_zero, List.set_cons_succ, i64_w, i32_w]
    rfl
  refine pure_ (i := 10) (N := some 78) (v := ?_) (a' := ?_) (bl 21 2047) rfl rfl (by kernel_rfl) (fun _ _ _ h => h) (Or.inl ⟨by rfl, ?_⟩) ?_ ?_
  rotate_left
  · intro w'
    go_simp
    with_reducible rfl
  rotate_left
  · simp only [Act.put, List.setIfInBounds_toArray, List.set_cons_zero, List.set_cons_succ, i64_w, i32_w]
    rfl
  refine take_ (i := 12) (N := some 80) (v := ?_) (a' := ?_) (bl 21 6143) rfl rfl (by kernel_rfl) (fun _ _ _ h => h) (Or.inl ⟨by rfl, ?_⟩) hHeld ?_ ?_
  rotate_left
  · rintro w' ⟨s0, s1, s2, s3⟩
    go_simp
    with_reducible rfl
  rotate_left
  · simp only [Act.put, List.setIfInBounds_toArray, List.set_cons_zero, List.set_cons_succ, i64_w, i32_w]
    rfl
  refine one_ (i := 11) (N := some 79) (bl 21 8191) rfl rfl (by kernel_rfl) (by decide) (fun K hK => ?_)
  rw [if_pos (by rfl)]
  go_simp
  go_at_call 18
  (with_reducible refine (empty_c _).mono ?_)
  rintro e w1 ⟨rfl, hb⟩
  have F : Fr w w1 [(23, #[.int .i32 a, .int .i32 b]), (23, #[.int .i32 c, .int .i32 d])] := F.call hb
  obtain ⟨p0, q0, f0, g0⟩ := F.pair0 23 _ _ rfl
  obtain ⟨p1, q1, f1, g1⟩ := F.pair1 23 _ _ rfl
  refine hK.out _ _ ⟨p0, q0, p1, q1⟩ (fun hHeld => ?_)
  clear hK K
  refine one_ (i := 13) (N := some 81) (bl 21 16383) rfl rfl (by kernel_rfl) (by decide) (fun K hK => ?_)
  rw [if_pos (by rfl)]
  go_simp
  go_at_call 14
  (with_reducible refine (within_r 1 0 a b _ X4.out _).mono ?_)
  rintro e w1 ⟨rfl, hb⟩
  have F : Fr w w1 [(23, #[.int .i32 a, .int .i32 b]), (23, #[.int .i32 c, .int .i32 d])] := F.call hb
  obtain ⟨p0, q0, f0, g0⟩ := F.pair0 23 _ _ rfl
  obtain ⟨p1, q1, f1, g1⟩ := F.pair1 23 _ _ rfl
  refine hK.out _ _ ⟨p0, q0, p1, q1⟩ (fun hHeld => ?_)
  clear hK K
  refine pure_ (i := 14) (N := some 82) (v := ?_) (a' := ?_) (bl 21 32767) rfl rfl (by kernel_rfl) (fun _ _ _ h => h) (Or.inl ⟨by rfl, ?_⟩) ?_ ?_
  rotate_left
  · intro w'
    go_simp
    with_reducible rfl
  rotate_left
  · simp only [Act.put, List.setIfInBounds_toArray, List.set_cons_zero, List.set_cons_succ, i64_w, i32_w]
    rfl
  refine pure_ (i := 15) (N := some 83) (v := ?_) (a' := ?_) (bl 21 65535) rfl rfl (by kernel_rfl) (fun _ _ _ h => h) (Or.inl ⟨by rfl, ?_⟩) ?_ ?_
  rotate_left
  · intro w'
    go_simp
    with_reducible rfl
  rotate_left
  · simp only [Act.put, List.setIfInBounds_toArray, List.set_cons_zero, List.set_cons_succ, i64_w, i32_w]
    rfl
  refine take_ (i := 16) (N := some 84) (v := ?_) (a' := ?_) (bl 21 131071) rfl rfl (by kernel_rfl) (fun _ _ _ h => h) (Or.inl ⟨by rfl, ?_⟩) hHeld ?_ ?_
  rotate_left
  · rintro w' ⟨s0, s1, s2, s3⟩
    go_simp
    with_reducible rfl
  rotate_left
  · simp only [Act.put, List.setIfInBounds_toArray, List.set_cons_zero, List.set_cons_succ, i64_w, i32_w]
    rfl
  refine one_ (i := 17) (N := some 85) (bl 21 262143) rfl rfl (by kernel_rfl) (by decide) (fun K hK => ?_)
  rw [if_pos (by rfl)]
  go_simp
  go_at_call 25
  (with_reducible refine (full_c _).mono ?_)
  rintro e w1 ⟨rfl, hb⟩
  have F : Fr w w1 [(23, #[.int .i32 a, .int .i32 b]), (23, #[.int .i32 c, .int .i32 d])] := F.call hb
  obtain ⟨p0, q0, f0, g0⟩ := F.pair0 23 _ _ rfl
  obtain ⟨p1, q1, f1, g1⟩ := F.pair1 23 _ _ rfl
  refine hK.out _ _ ⟨p0, q0, p1, q1⟩ (fun hHeld => ?_)
  clear hK K
  refine one_ (i := 18) (N := some 86) (bl 21 524287) rfl rfl (by kernel_rfl) (by decide) (fun K hK => ?_)
  rw [if_pos (by rfl)]
  go_simp
  go_at_call 14
  (with_reducible refine (within_r a b (-2147483648) 2147483647 _ X5.out _).mono ?_)
  rintro e w1 ⟨rfl, hb⟩
  have F : Fr w w1 [(23, #[.int .i32 a, .int .i32 b]), (23, #[.int .i32 c, .int .i32 d])] := F.call hb
  obtain ⟨p0, q0, f0, g0⟩ := F.pair0 23 _ _ rfl
  obtain ⟨p1, q1, f1, g1⟩ := F.pair1 23 _ _ rfl
  refine hK.out _ _ ⟨p0, q0, p1, q1⟩ (fun hHeld => ?_)
  clear hK K
  refine pure_ (i := 19) (N := some 87) (v := ?_) (a' := ?_) (bl 21 1048575) rfl rfl (by kernel_rfl) (fun _ _ _ h => h) (Or.inl ⟨by rfl, ?_⟩) ?_ ?_
  rotate_left
  · intro w'
    go_simp
    with_reducible rfl
  rotate_left
  · simp only [Act.put, List.setIfInBounds_toArray, List.set_cons_zero, List.set_cons_succ, i64_w, i32_w]
    rfl
  refine pure_ (i := 20) (N := some 6) (v := ?_) (a' := ?_) (bl 21 2097151) rfl rfl (by kernel_rfl) (fun _ _ _ h => h) (Or.inl ⟨by rfl, ?_⟩) ?_ ?_
  rotate_left
  · intro w'
    go_simp
    with_reducible rfl
  rotate_left
  · simp only [Act.put, List.setIfInBounds_toArray, List.set_cons_zero, List.set_cons_succ, i64_w, i32_w]
    rfl
  refine done_ (by kernel_rfl) ?_
  go_wp2
  go_ret
  exact ⟨by first | rfl | (simp; done), F.below⟩
  

set_option maxRecDepth 100000 in
set_option maxHeartbeats 8000000 in
theorem sets_tt (a b c d n : Int) (r : Bool) (hr : ct a b n = r) (hg : a ≤ b) (hu : ct c d a = true) (hv : ct c d b = true) (hw : wi a b c d = true) (ha : -2147483648 ≤ a) (hb1 : b ≤ 2147483647) (hn : -2147483648 ≤ n) (hn1 : n ≤ 2147483647) (w : World) :
    Calls Try.prog 10 #[.agg #[.int .i32 a, .int .i32 b], .agg #[.int .i32 c, .int .i32 d], .int .i32 n] w fun e w' => e = .returned (.bool true) ∧ Below w.heap.size w w' := by
  have X1 := Lib.hid (show ct (-2147483648) 2147483647 n = true by unfold ct; simp only [decide_eq_true_eq]; omega)
  have X2 := Lib.hid (show ct 1 0 n = false by unfold ct; simp only [decide_eq_false_iff_not]; omega)
  have X3 := Lib.hid (show wi a b a b = true by unfold wi; simp only [decide_eq_true_eq]; omega)
  have X4 := Lib.hid (show wi 1 0 a b = true by unfold wi; simp only [decide_eq_true_eq]; omega)
  have X5 := Lib.hid (show wi a b (-2147483648) 2147483647 = true by unfold wi; simp only [decide_eq_true_eq]; omega)
  have X6 := Lib.hid (show decide (a > b) = false by exact decide_eq_false (by omega))
  have hgb : decide (b < a) = false := decide_eq_false (by omega)
  have HR := Lib.hid hr
  have HW := Lib.hid hw
  clear hr hw
  have HU := Lib.hid hu
  clear hu
  have HV := Lib.hid hv
  clear hv
  have F := Fr.two w 23 #[.int .i32 a, .int .i32 b] 23 #[.int .i32 c, .int .i32 d]
  obtain ⟨p0, q0, f0, g0⟩ := F.pair0 23 _ _ rfl; obtain ⟨p1, q1, f1, g1⟩ := F.pair1 23 _ _ rfl
  have hu23 := Try.underlying23
  go_enter Try.func10, Try.ntmps10
  go_wp2_with (first | (go_at_call 13; ((with_reducible refine (awake_c _).mono ?_); rintro e w1 ⟨rfl, hb⟩; have F : Fr w w1 [(23, #[.int .i32 a, .int .i32 b]), (23, #[.int .i32 c, .int .i32 d])] := (by first | exact F.call hb | exact (F.drewN _).call hb | exact F.drew.call hb | exact (F.alloc _).call hb | exact ((F.alloc _).alloc _).call hb | exact (F.drew.alloc _).call hb | exact ((F.drew.alloc _).alloc _).call hb | exact (F.alloc _).drew.call hb | exact ((F.alloc _).alloc _).drew.call hb); obtain ⟨p0, q0, f0, g0⟩ := F.pair0 23 _ _ rfl; obtain ⟨p1, q1, f1, g1⟩ := F.pair1 23 _ _ rfl)) | (go_at_call 27; ((with_reducible refine (of_c _ _).mono ?_); rintro e w1 ⟨rfl, hb⟩; have F : Fr w w1 [(23, #[.int .i32 a, .int .i32 b]), (23, #[.int .i32 c, .int .i32 d])] := (by first | exact F.call hb | exact (F.drewN _).call hb | exact F.drew.call hb | exact (F.alloc _).call hb | exact ((F.alloc _).alloc _).call hb | exact (F.drew.alloc _).call hb | exact ((F.drew.alloc _).alloc _).call hb | exact (F.alloc _).drew.call hb | exact ((F.alloc _).alloc _).drew.call hb); obtain ⟨p0, q0, f0, g0⟩ := F.pair0 23 _ _ rfl; obtain ⟨p1, q1, f1, g1⟩ := F.pair1 23 _ _ rfl)) | (go_at_call 25; ((with_reducible refine (full_c _).mono ?_); rintro e w1 ⟨rfl, hb⟩; have F : Fr w w1 [(23, #[.int .i32 a, .int .i32 b]), (23, #[.int .i32 c, .int .i32 d])] := (by first | exact F.call hb | exact (F.drewN _).call hb | exact F.drew.call hb | exact (F.alloc _).call hb | exact ((F.alloc _).alloc _).call hb | exact (F.drew.alloc _).call hb | exact ((F.drew.alloc _).alloc _).call hb | exact (F.alloc _).drew.call hb | exact ((F.alloc _).alloc _).drew.call hb); obtain ⟨p0, q0, f0, g0⟩ := F.pair0 23 _ _ rfl; obtain ⟨p1, q1, f1, g1⟩ := F.pair1 23 _ _ rfl)) | (go_at_call 15; ((with_reducible refine (contains_r (-2147483648) 2147483647 n _ X1.out _).mono ?_); rintro e w1 ⟨rfl, hb⟩; have F : Fr w w1 [(23, #[.int .i32 a, .int .i32 b]), (23, #[.int .i32 c, .int .i32 d])] := (by first | exact F.call hb | exact (F.drewN _).call hb | exact F.drew.call hb | exact (F.alloc _).call hb | exact ((F.alloc _).alloc _).call hb | exact (F.drew.alloc _).call hb | exact ((F.drew.alloc _).alloc _).call hb | exact (F.alloc _).drew.call hb | exact ((F.alloc _).alloc _).drew.call hb); obtain ⟨p0, q0, f0, g0⟩ := F.pair0 23 _ _ rfl; obtain ⟨p1, q1, f1, g1⟩ := F.pair1 23 _ _ rfl)) | (go_at_call 18; ((with_reducible refine (empty_c _).mono ?_); rintro e w1 ⟨rfl, hb⟩; have F : Fr w w1 [(23, #[.int .i32 a, .int .i32 b]), (23, #[.int .i32 c, .int .i32 d])] := (by first | exact F.call hb | exact (F.drewN _).call hb | exact F.drew.call hb | exact (F.alloc _).call hb | exact ((F.alloc _).alloc _).call hb | exact (F.drew.alloc _).call hb | exact ((F.drew.alloc _).alloc _).call hb | exact (F.alloc _).drew.call hb | exact ((F.alloc _).alloc _).drew.call hb); obtain ⟨p0, q0, f0, g0⟩ := F.pair0 23 _ _ rfl; obtain ⟨p1, q1, f1, g1⟩ := F.pair1 23 _ _ rfl)) | (go_at_call 15; ((with_reducible refine (contains_r 1 0 n _ X2.out _).mono ?_); rintro e w1 ⟨rfl, hb⟩; have F : Fr w w1 [(23, #[.int .i32 a, .int .i32 b]), (23, #[.int .i32 c, .int .i32 d])] := (by first | exact F.call hb | exact (F.drewN _).call hb | exact F.drew.call hb | exact (F.alloc _).call hb | exact ((F.alloc _).alloc _).call hb | exact (F.drew.alloc _).call hb | exact ((F.drew.alloc _).alloc _).call hb | exact (F.alloc _).drew.call hb | exact ((F.alloc _).alloc _).drew.call hb); obtain ⟨p0, q0, f0, g0⟩ := F.pair0 23 _ _ rfl; obtain ⟨p1, q1, f1, g1⟩ := F.pair1 23 _ _ rfl)))
  refine start_ (n := 17) (S := fun w' => w'.cell? ⟨w.heap.size, 0, none⟩ = some (.int .i32 a) ∧ w'.cell? ⟨w.heap.size, 1, none⟩ = some (.int .i32 b)) (ds := []) (bl 17 0) (by kernel_rfl) rfl (by kernel_rfl) ⟨p0, q0⟩ (fun hHeld => ?_)
  have F := F.drew
  refine take_ (i := 0) (N := some 34) (v := ?_) (a' := ?_) (bl 17 1) rfl rfl (by kernel_rfl) (fun _ _ _ h => h) (Or.inl ⟨by rfl, ?_⟩) hHeld ?_ ?_
  rotate_left
  · rintro w' ⟨s0, s1⟩
    go_simp
    with_reducible rfl
  rotate_left
  · simp only [Act.put, List.setIfInBounds_toArray, List.set_cons_zero, List.set_cons_succ, i64_w, i32_w]
    rfl
  refine pure_ (i := 1) (N := some 35) (v := ?_) (a' := ?_) (bl 17 3) rfl rfl (by kernel_rfl) (fun _ _ _ h => h) (Or.inl ⟨by rfl, ?_⟩) ?_ ?_
  rotate_left
  · intro w'
    go_simp
    with_reducible rfl
  rotate_left
  · simp only [Act.put, List.setIfInBounds_toArray, List.set_cons_zero, List.set_cons_succ, i64_w, i32_w]
    rfl
  refine take_ (i := 3) (N := some 37) (v := ?_) (a' := ?_) (bl 17 11) rfl rfl (by kernel_rfl) (fun _ _ _ h => h) (Or.inl ⟨by rfl, ?_⟩) hHeld ?_ ?_
  rotate_left
  · rintro w' ⟨s0, s1⟩
    go_simp
    with_reducible rfl
  rotate_left
  · simp only [Act.put, List.setIfInBounds_toArray, List.set_cons_zero, List.set_cons_succ, i64_w, i32_w]
    rfl
  refine pure_ (i := 4) (N := some 38) (v := ?_) (a' := ?_) (bl 17 27) rfl rfl (by kernel_rfl) (fun _ _ _ h => h) (Or.inl ⟨by rfl, ?_⟩) ?_ ?_
  rotate_left
  · intro w'
    go_simp
    with_reducible rfl
  rotate_left
  · simp only [Act.put, List.setIfInBounds_toArray, List.set_cons_zero, List.set_cons_succ, i64_w, i32_w]
    rfl
  refine one_ (i := 2) (N := some 36) (bl 17 31) rfl rfl (by kernel_rfl) (by decide) (fun K hK => ?_)
  rw [if_pos (by rfl)]
  go_simp
  go_at_call 15
  (with_reducible refine (contains_r a b n _ HR.out _).mono ?_)
  rintro e w1 ⟨rfl, hb⟩
  have F : Fr w w1 [(23, #[.int .i32 a, .int .i32 b]), (23, #[.int .i32 c, .int .i32 d])] := F.call hb
  obtain ⟨p0, q0, f0, g0⟩ := F.pair0 23 _ _ rfl
  obtain ⟨p1, q1, f1, g1⟩ := F.pair1 23 _ _ rfl
  refine hK.out _ _ ⟨p0, q0⟩ (fun hHeld => ?_)
  clear hK K
  refine one_ (i := 5) (N := some 39) (bl 17 63) rfl rfl (by kernel_rfl) (by decide) (fun K hK => ?_)
  rw [if_pos (by rfl)]
  go_simp
  go_at_call 16
  (with_reducible refine (has_r a b n _ HR.out _).mono ?_)
  rintro e w1 ⟨rfl, hb⟩
  have F : Fr w w1 [(23, #[.int .i32 a, .int .i32 b]), (23, #[.int .i32 c, .int .i32 d])] := F.call hb
  obtain ⟨p0, q0, f0, g0⟩ := F.pair0 23 _ _ rfl
  obtain ⟨p1, q1, f1, g1⟩ := F.pair1 23 _ _ rfl
  refine hK.out _ _ ⟨p0, q0⟩ (fun hHeld => ?_)
  clear hK K
  refine pure_ (i := 6) (N := some 40) (v := ?_) (a' := ?_) (bl 17 127) rfl rfl (by kernel_rfl) (fun _ _ _ h => h) (Or.inl ⟨by rfl, ?_⟩) ?_ ?_
  rotate_left
  · intro w'
    go_simp
    with_reducible rfl
  rotate_left
  · simp only [Act.put, List.setIfInBounds_toArray, List.set_cons_zero, List.set_cons_succ, i64_w, i32_w]
    rfl
  refine pure_ (i := 7) (N := some 41) (v := ?_) (a' := ?_) (bl 17 255) rfl rfl (by kernel_rfl) (fun _ _ _ h => h) (Or.inl ⟨by rfl, ?_⟩) ?_ ?_
  rotate_left
  · intro w'
    go_simp
    with_reducible rfl
  rotate_left
  · simp only [Act.put, List.setIfInBounds_toArray, List.set_cons_zero, List.set_cons_succ, i64_w, i32_w]
    rfl
  refine take_ (i := 8) (N := some 42) (v := ?_) (a' := ?_) (bl 17 511) rfl rfl (by kernel_rfl) (fun _ _ _ h => h) (Or.inl ⟨by rfl, ?_⟩) hHeld ?_ ?_
  rotate_left
  · rintro w' ⟨s0, s1⟩
    go_simp
    with_reducible rfl
  rotate_left
  · simp only [Act.put, List.setIfInBounds_toArray, List.set_cons_zero, List.set_cons_succ, i64_w, i32_w]
    rfl
  refine pure_ (i := 10) (N := some 44) (v := ?_) (a' := ?_) (bl 17 1535) rfl rfl (by kernel_rfl) (fun _ _ _ h => h) (Or.inl ⟨by rfl, ?_⟩) ?_ ?_
  rotate_left
  · intro w'
    go_simp
    with_reducible rfl
  rotate_left
  · simp only [Act.put, List.setIfInBounds_toArray, List.set_cons_zero, List.set_cons_succ, i64_w, i32_w]
    rfl
  refine take_ (i := 11) (N := some 45) (v := ?_) (a' := ?_) (bl 17 3583) rfl rfl (by kernel_rfl) (fun _ _ _ h => h) (Or.inl ⟨by rfl, ?_⟩) hHeld ?_ ?_
  rotate_left
  · rintro w' ⟨s0, s1⟩
    go_simp
    with_reducible rfl
  rotate_left
  · simp only [Act.put, List.setIfInBounds_toArray, List.set_cons_zero, List.set_cons_succ, i64_w, i32_w]
    rfl
  refine pure_ (i := 12) (N := some 46) (v := ?_) (a' := ?_) (bl 17 7679) rfl rfl (by kernel_rfl) (fun _ _ _ h => h) (Or.inl ⟨by rfl, ?_⟩) ?_ ?_
  rotate_left
  · intro w'
    go_simp
    with_reducible rfl
  rotate_left
  · simp only [Act.put, List.setIfInBounds_toArray, List.set_cons_zero, List.set_cons_succ, i64_w, i32_w]
    rfl
  refine take_ (i := 13) (N := some 47) (v := ?_) (a' := ?_) (bl 17 15871) rfl rfl (by kernel_rfl) (fun _ _ _ h => h) (Or.inl ⟨by rfl, ?_⟩) hHeld ?_ ?_
  rotate_left
  · rintro w' ⟨s0, s1⟩
    go_simp
    with_reducible rfl
  rotate_left
  · simp only [Act.put, List.setIfInBounds_toArray, List.set_cons_zero, List.set_cons_succ, i64_w, i32_w]
    rfl
  refine pure_ (i := 14) (N := some 48) (v := ?_) (a' := ?_) (bl 17 32255) rfl rfl (by kernel_rfl) (fun _ _ _ h => h) (Or.inl ⟨by rfl, ?_⟩) ?_ ?_
  rotate_left
  · intro w'
    go_simp
    with_reducible rfl
  rotate_left
  · simp only [Act.put, List.setIfInBounds_toArray, List.set_cons_zero, List.set_cons_succ, i64_w, i32_w]
    rfl
  refine one_ (i := 9) (N := some 43) (bl 17 32767) rfl rfl (by kernel_rfl) (by decide) (fun K hK => ?_)
  rw [if_pos (by rfl)]
  go_simp
  go_at_call 17
  (with_reducible refine (isEmpty_r a b _ X6.out _).mono ?_)
  rintro e w1 ⟨rfl, hb⟩
  have F : Fr w w1 [(23, #[.int .i32 a, .int .i32 b]), (23, #[.int .i32 c, .int .i32 d])] := F.call hb
  obtain ⟨p0, q0, f0, g0⟩ := F.pair0 23 _ _ rfl
  obtain ⟨p1, q1, f1, g1⟩ := F.pair1 23 _ _ rfl
  refine hK.out _ _ ⟨p0, q0⟩ (fun hHeld => ?_)
  clear hK K
  refine pure_ (i := 15) (N := some 49) (v := ?_) (a' := ?_) (bl 17 65535) rfl rfl (by kernel_rfl) (fun _ _ _ h => h) (Or.inl ⟨by rfl, ?_⟩) ?_ ?_
  rotate_left
  · intro w'
    go_simp
    with_reducible rfl
  rotate_left
  · simp only [Act.put, List.setIfInBounds_toArray, List.set_cons_zero, List.set_cons_succ, i64_w, i32_w]
    rfl
  refine pure_ (i := 16) (N := some 50) (v := ?_) (a' := ?_) (bl 17 131071) rfl rfl (by kernel_rfl) (fun _ _ _ h => h) (Or.inl ⟨by rfl, ?_⟩) ?_ ?_
  rotate_left
  · intro w'
    go_simp
    with_reducible rfl
  rotate_left
  · simp only [Act.put, List.setIfInBounds_toArray, List.set_cons_zero, List.set_cons_succ, i64_w, i32_w]
    rfl
  refine done_ (by kernel_rfl) ?_
  go_wp2_with (first | (go_at_call 16; ((with_reducible refine (has_r c d a _ HU.out _).mono ?_); rintro e w1 ⟨rfl, hb⟩; have F : Fr w w1 [(23, #[.int .i32 a, .int .i32 b]), (23, #[.int .i32 c, .int .i32 d])] := (by first | exact F.call hb | exact (F.drewN _).call hb | exact F.drew.call hb | exact (F.alloc _).call hb | exact ((F.alloc _).alloc _).call hb | exact (F.drew.alloc _).call hb | exact ((F.drew.alloc _).alloc _).call hb | exact (F.alloc _).drew.call hb | exact ((F.alloc _).alloc _).drew.call hb); obtain ⟨p0, q0, f0, g0⟩ := F.pair0 23 _ _ rfl; obtain ⟨p1, q1, f1, g1⟩ := F.pair1 23 _ _ rfl)) | (go_at_call 16; ((with_reducible refine (has_r c d b _ HV.out _).mono ?_); rintro e w1 ⟨rfl, hb⟩; have F : Fr w w1 [(23, #[.int .i32 a, .int .i32 b]), (23, #[.int .i32 c, .int .i32 d])] := (by first | exact F.call hb | exact (F.drewN _).call hb | exact F.drew.call hb | exact (F.alloc _).call hb | exact ((F.alloc _).alloc _).call hb | exact (F.drew.alloc _).call hb | exact ((F.drew.alloc _).alloc _).call hb | exact (F.alloc _).drew.call hb | exact ((F.alloc _).alloc _).drew.call hb); obtain ⟨p0, q0, f0, g0⟩ := F.pair0 23 _ _ rfl; obtain ⟨p1, q1, f1, g1⟩ := F.pair1 23 _ _ rfl)))
  refine start_ (n := 21) (S := fun w' => w'.cell? ⟨w.heap.size, 0, none⟩ = some (.int .i32 a) ∧ w'.cell? ⟨w.heap.size, 1, none⟩ = some (.int .i32 b) ∧ w'.cell? ⟨w.heap.size + 1, 0, none⟩ = some (.int .i32 c) ∧ w'.cell? ⟨w.heap.size + 1, 1, none⟩ = some (.int .i32 d)) (ds := []) (bl 21 0) (by kernel_rfl) rfl (by kernel_rfl) ⟨p0, q0, p1, q1⟩ (fun hHeld => ?_)
  have F := F.drew
  refine take_ (i := 0) (N := some 68) (v := ?_) (a' := ?_) (bl 21 1) rfl rfl (by kernel_rfl) (fun _ _ _ h => h) (Or.inl ⟨by rfl, ?_⟩) hHeld ?_ ?_
  rotate_left
  · rintro w' ⟨s0, s1, s2, s3⟩
    go_simp
    with_reducible rfl
  rotate_left
  · simp only [Act.put, List.setIfInBounds_toArray, List.set_cons_zero, List.set_cons_succ, i64_w, i32_w]
    rfl
  refine take_ (i := 1) (N := some 69) (v := ?_) (a' := ?_) (bl 21 3) rfl rfl (by kernel_rfl) (fun _ _ _ h => h) (Or.inl ⟨by rfl, ?_⟩) hHeld ?_ ?_
  rotate_left
  · rintro w' ⟨s0, s1, s2, s3⟩
    go_simp
    with_reducible rfl
  rotate_left
  · simp only [Act.put, List.setIfInBounds_toArray, List.set_cons_zero, List.set_cons_succ, i64_w, i32_w]
    rfl
  refine pure_ (i := 3) (N := some 71) (v := ?_) (a' := ?_) (bl 21 11) rfl rfl (by kernel_rfl) (fun _ _ _ h => h) (Or.inl ⟨by rfl, ?_⟩) ?_ ?_
  rotate_left
  · intro w'
    go_simp
    with_reducible rfl
  rotate_left
  · simp only [Act.put, List.setIfInBounds_toArray, List.set_cons_zero, List.set_cons_succ, i64_w, i32_w]
    rfl
  refine one_ (i := 2) (N := some 70) (bl 21 15) rfl rfl (by kernel_rfl) (by decide) (fun K hK => ?_)
  rw [if_pos (by rfl)]
  go_simp
  go_at_call 14
  (with_reducible refine (within_r a b c d _ HW.out _).mono ?_)
  rintro e w1 ⟨rfl, hb⟩
  have F : Fr w w1 [(23, #[.int .i32 a, .int .i32 b]), (23, #[.int .i32 c, .int .i32 d])] := F.call hb
  obtain ⟨p0, q0, f0, g0⟩ := F.pair0 23 _ _ rfl
  obtain ⟨p1, q1, f1, g1⟩ := F.pair1 23 _ _ rfl
  refine hK.out _ _ ⟨p0, q0, p1, q1⟩ (fun hHeld => ?_)
  clear hK K
  refine pure_ (i := 4) (N := some 72) (v := ?_) (a' := ?_) (bl 21 31) rfl rfl (by kernel_rfl) (fun _ _ _ h => h) (Or.inl ⟨by rfl, ?_⟩) ?_ ?_
  rotate_left
  · intro w'
    go_simp
    with_reducible rfl
  rotate_left
  · simp only [Act.put, List.setIfInBounds_toArray, List.set_cons_zero, List.set_cons_succ, i64_w, i32_w]
    rfl
  refine pure_ (i := 5) (N := some 73) (v := ?_) (a' := ?_) (bl 21 63) rfl rfl (by kernel_rfl) (fun _ _ _ h => h) (Or.inl ⟨by rfl, ?_⟩) ?_ ?_
  rotate_left
  · intro w'
    go_simp
    with_reducible rfl
  rotate_left
  · simp only [Act.put, List.setIfInBounds_toArray, List.set_cons_zero, List.set_cons_succ, i64_w, i32_w]
    rfl
  refine take_ (i := 6) (N := some 74) (v := ?_) (a' := ?_) (bl 21 127) rfl rfl (by kernel_rfl) (fun _ _ _ h => h) (Or.inl ⟨by rfl, ?_⟩) hHeld ?_ ?_
  rotate_left
  · rintro w' ⟨s0, s1, s2, s3⟩
    go_simp
    with_reducible rfl
  rotate_left
  · simp only [Act.put, List.setIfInBounds_toArray, List.set_cons_zero, List.set_cons_succ, i64_w, i32_w]
    rfl
  refine take_ (i := 7) (N := some 75) (v := ?_) (a' := ?_) (bl 21 255) rfl rfl (by kernel_rfl) (fun _ _ _ h => h) (Or.inl ⟨by rfl, ?_⟩) hHeld ?_ ?_
  rotate_left
  · rintro w' ⟨s0, s1, s2, s3⟩
    go_simp
    with_reducible rfl
  rotate_left
  · simp only [Act.put, List.setIfInBounds_toArray, List.set_cons_zero, List.set_cons_succ, i64_w, i32_w]
    rfl
  refine one_ (i := 8) (N := some 76) (bl 21 511) rfl rfl (by kernel_rfl) (by decide) (fun K hK => ?_)
  rw [if_pos (by rfl)]
  go_simp
  go_at_call 14
  (with_reducible refine (within_r a b a b _ X3.out _).mono ?_)
  rintro e w1 ⟨rfl, hb⟩
  have F : Fr w w1 [(23, #[.int .i32 a, .int .i32 b]), (23, #[.int .i32 c, .int .i32 d])] := F.call hb
  obtain ⟨p0, q0, f0, g0⟩ := F.pair0 23 _ _ rfl
  obtain ⟨p1, q1, f1, g1⟩ := F.pair1 23 _ _ rfl
  refine hK.out _ _ ⟨p0, q0, p1, q1⟩ (fun hHeld => ?_)
  clear hK K
  refine pure_ (i := 9) (N := some 77) (v := ?_) (a' := ?_) (bl 21 1023) rfl rfl (by kernel_rfl) (fun _ _ _ h => h) (Or.inl ⟨by rfl, ?_⟩) ?_ ?_
  rotate_left
  · intro w'
    go_simp
    with_reducible rfl
  rotate_left
  · simp only [Act.put, List.setIfInBounds_toArray, List.set_cons_zero, List.set_cons_succ, i64_w, i32_w]
    rfl
  refine pure_ (i := 10) (N := some 78) (v := ?_) (a' := ?_) (bl 21 2047) rfl rfl (by kernel_rfl) (fun _ _ _ h => h) (Or.inl ⟨by rfl, ?_⟩) ?_ ?_
  rotate_left
  · intro w'
    go_simp
    with_reducible rfl
  rotate_left
  · simp only [Act.put, List.setIfInBounds_toArray, List.set_cons_zero, List.set_cons_succ, i64_w, i32_w]
    rfl
  refine take_ (i := 12) (N := some 80) (v := ?_) (a' := ?_) (bl 21 6143) rfl rfl (by kernel_rfl) (fun _ _ _ h => h) (Or.inl ⟨by rfl, ?_⟩) hHeld ?_ ?_
  rotate_left
  · rintro w' ⟨s0, s1, s2, s3⟩
    go_simp
    with_reducible rfl
  rotate_left
  · simp only [Act.put, List.setIfInBounds_toArray, List.set_cons_zero, List.set_cons_succ, i64_w, i32_w]
    rfl
  refine one_ (i := 11) (N := some 79) (bl 21 8191) rfl rfl (by kernel_rfl) (by decide) (fun K hK => ?_)
  rw [if_pos (by rfl)]
  go_simp
  go_at_call 18
  (with_reducible refine (empty_c _).mono ?_)
  rintro e w1 ⟨rfl, hb⟩
  have F : Fr w w1 [(23, #[.int .i32 a, .int .i32 b]), (23, #[.int .i32 c, .int .i32 d])] := F.call hb
  obtain ⟨p0, q0, f0, g0⟩ := F.pair0 23 _ _ rfl
  obtain ⟨p1, q1, f1, g1⟩ := F.pair1 23 _ _ rfl
  refine hK.out _ _ ⟨p0, q0, p1, q1⟩ (fun hHeld => ?_)
  clear hK K
  refine one_ (i := 13) (N := some 81) (bl 21 16383) rfl rfl (by kernel_rfl) (by decide) (fun K hK => ?_)
  rw [if_pos (by rfl)]
  go_simp
  go_at_call 14
  (with_reducible refine (within_r 1 0 a b _ X4.out _).mono ?_)
  rintro e w1 ⟨rfl, hb⟩
  have F : Fr w w1 [(23, #[.int .i32 a, .int .i32 b]), (23, #[.int .i32 c, .int .i32 d])] := F.call hb
  obtain ⟨p0, q0, f0, g0⟩ := F.pair0 23 _ _ rfl
  obtain ⟨p1, q1, f1, g1⟩ := F.pair1 23 _ _ rfl
  refine hK.out _ _ ⟨p0, q0, p1, q1⟩ (fun hHeld => ?_)
  clear hK K
  refine pure_ (i := 14) (N := some 82) (v := ?_) (a' := ?_) (bl 21 32767) rfl rfl (by kernel_rfl) (fun _ _ _ h => h) (Or.inl ⟨by rfl, ?_⟩) ?_ ?_
  rotate_left
  · intro w'
    go_simp
    with_reducible rfl
  rotate_left
  · simp only [Act.put, List.setIfInBounds_toArray, List.set_cons_zero, List.set_cons_succ, i64_w, i32_w]
    rfl
  refine pure_ (i := 15) (N := some 83) (v := ?_) (a' := ?_) (bl 21 65535) rfl rfl (by kernel_rfl) (fun _ _ _ h => h) (Or.inl ⟨by rfl, ?_⟩) ?_ ?_
  rotate_left
  · intro w'
    go_simp
    with_reducible rfl
  rotate_left
  · simp only [Act.put, List.setIfInBounds_toArray, List.set_cons_zero, List.set_cons_succ, i64_w, i32_w]
    rfl
  refine take_ (i := 16) (N := some 84) (v := ?_) (a' := ?_) (bl 21 131071) rfl rfl (by kernel_rfl) (fun _ _ _ h => h) (Or.inl ⟨by rfl, ?_⟩) hHeld ?_ ?_
  rotate_left
  · rintro w' ⟨s0, s1, s2, s3⟩
    go_simp
    with_reducible rfl
  rotate_left
  · simp only [Act.put, List.setIfInBounds_toArray, List.set_cons_zero, List.set_cons_succ, i64_w, i32_w]
    rfl
  refine one_ (i := 17) (N := some 85) (bl 21 262143) rfl rfl (by kernel_rfl) (by decide) (fun K hK => ?_)
  rw [if_pos (by rfl)]
  go_simp
  go_at_call 25
  (with_reducible refine (full_c _).mono ?_)
  rintro e w1 ⟨rfl, hb⟩
  have F : Fr w w1 [(23, #[.int .i32 a, .int .i32 b]), (23, #[.int .i32 c, .int .i32 d])] := F.call hb
  obtain ⟨p0, q0, f0, g0⟩ := F.pair0 23 _ _ rfl
  obtain ⟨p1, q1, f1, g1⟩ := F.pair1 23 _ _ rfl
  refine hK.out _ _ ⟨p0, q0, p1, q1⟩ (fun hHeld => ?_)
  clear hK K
  refine one_ (i := 18) (N := some 86) (bl 21 524287) rfl rfl (by kernel_rfl) (by decide) (fun K hK => ?_)
  rw [if_pos (by rfl)]
  go_simp
  go_at_call 14
  (with_reducible refine (within_r a b (-2147483648) 2147483647 _ X5.out _).mono ?_)
  rintro e w1 ⟨rfl, hb⟩
  have F : Fr w w1 [(23, #[.int .i32 a, .int .i32 b]), (23, #[.int .i32 c, .int .i32 d])] := F.call hb
  obtain ⟨p0, q0, f0, g0⟩ := F.pair0 23 _ _ rfl
  obtain ⟨p1, q1, f1, g1⟩ := F.pair1 23 _ _ rfl
  refine hK.out _ _ ⟨p0, q0, p1, q1⟩ (fun hHeld => ?_)
  clear hK K
  refine pure_ (i := 19) (N := some 87) (v := ?_) (a' := ?_) (bl 21 1048575) rfl rfl (by kernel_rfl) (fun _ _ _ h => h) (Or.inl ⟨by rfl, ?_⟩) ?_ ?_
  rotate_left
  · intro w'
    go_simp
    with_reducible rfl
  rotate_left
  · simp only [Act.put, List.setIfInBounds_toArray, List.set_cons_zero, List.set_cons_succ, i64_w, i32_w]
    rfl
  refine pure_ (i := 20) (N := some 6) (v := ?_) (a' := ?_) (bl 21 2097151) rfl rfl (by kernel_rfl) (fun _ _ _ h => h) (Or.inl ⟨by rfl, ?_⟩) ?_ ?_
  rotate_left
  · intro w'
    go_simp
    with_reducible rfl
  rotate_left
  · simp only [Act.put, List.setIfInBounds_toArray, List.set_cons_zero, List.set_cons_succ, i64_w, i32_w]
    rfl
  refine done_ (by kernel_rfl) ?_
  go_wp2
  go_ret
  exact ⟨by first | rfl | (simp; done), F.below⟩
  

set_option maxRecDepth 100000 in
set_option maxHeartbeats 8000000 in
theorem sets_f (a b c d n : Int) (r : Bool) (hr : ct a b n = r) (hg : a ≤ b) (hu : ct c d a = false) (hw : wi a b c d = false) (ha : -2147483648 ≤ a) (hb1 : b ≤ 2147483647) (hn : -2147483648 ≤ n) (hn1 : n ≤ 2147483647) (w : World) :
    Calls Try.prog 10 #[.agg #[.int .i32 a, .int .i32 b], .agg #[.int .i32 c, .int .i32 d], .int .i32 n] w fun e w' => e = .returned (.bool true) ∧ Below w.heap.size w w' := by
  have X1 := Lib.hid (show ct (-2147483648) 2147483647 n = true by unfold ct; simp only [decide_eq_true_eq]; omega)
  have X2 := Lib.hid (show ct 1 0 n = false by unfold ct; simp only [decide_eq_false_iff_not]; omega)
  have X3 := Lib.hid (show wi a b a b = true by unfold wi; simp only [decide_eq_true_eq]; omega)
  have X4 := Lib.hid (show wi 1 0 a b = true by unfold wi; simp only [decide_eq_true_eq]; omega)
  have X5 := Lib.hid (show wi a b (-2147483648) 2147483647 = true by unfold wi; simp only [decide_eq_true_eq]; omega)
  have X6 := Lib.hid (show decide (a > b) = false by exact decide_eq_false (by omega))
  have hgb : decide (b < a) = false := decide_eq_false (by omega)
  have HR := Lib.hid hr
  have HW := Lib.hid hw
  clear hr hw
  have HU := Lib.hid hu
  clear hu
  have F := Fr.two w 23 #[.int .i32 a, .int .i32 b] 23 #[.int .i32 c, .int .i32 d]
  obtain ⟨p0, q0, f0, g0⟩ := F.pair0 23 _ _ rfl; obtain ⟨p1, q1, f1, g1⟩ := F.pair1 23 _ _ rfl
  have hu23 := Try.underlying23
  go_enter Try.func10, Try.ntmps10
  go_wp2_with (first | (go_at_call 13; ((with_reducible refine (awake_c _).mono ?_); rintro e w1 ⟨rfl, hb⟩; have F : Fr w w1 [(23, #[.int .i32 a, .int .i32 b]), (23, #[.int .i32 c, .int .i32 d])] := (by first | exact F.call hb | exact (F.drewN _).call hb | exact F.drew.call hb | exact (F.alloc _).call hb | exact ((F.alloc _).alloc _).call hb | exact (F.drew.alloc _).call hb | exact ((F.drew.alloc _).alloc _).call hb | exact (F.alloc _).drew.call hb | exact ((F.alloc _).alloc _).drew.call hb); obtain ⟨p0, q0, f0, g0⟩ := F.pair0 23 _ _ rfl; obtain ⟨p1, q1, f1, g1⟩ := F.pair1 23 _ _ rfl)) | (go_at_call 27; ((with_reducible refine (of_c _ _).mono ?_); rintro e w1 ⟨rfl, hb⟩; have F : Fr w w1 [(23, #[.int .i32 a, .int .i32 b]), (23, #[.int .i32 c, .int .i32 d])] := (by first | exact F.call hb | exact (F.drewN _).call hb | exact F.drew.call hb | exact (F.alloc _).call hb | exact ((F.alloc _).alloc _).call hb | exact (F.drew.alloc _).call hb | exact ((F.drew.alloc _).alloc _).call hb | exact (F.alloc _).drew.call hb | exact ((F.alloc _).alloc _).drew.call hb); obtain ⟨p0, q0, f0, g0⟩ := F.pair0 23 _ _ rfl; obtain ⟨p1, q1, f1, g1⟩ := F.pair1 23 _ _ rfl)) | (go_at_call 25; ((with_reducible refine (full_c _).mono ?_); rintro e w1 ⟨rfl, hb⟩; have F : Fr w w1 [(23, #[.int .i32 a, .int .i32 b]), (23, #[.int .i32 c, .int .i32 d])] := (by first | exact F.call hb | exact (F.drewN _).call hb | exact F.drew.call hb | exact (F.alloc _).call hb | exact ((F.alloc _).alloc _).call hb | exact (F.drew.alloc _).call hb | exact ((F.drew.alloc _).alloc _).call hb | exact (F.alloc _).drew.call hb | exact ((F.alloc _).alloc _).drew.call hb); obtain ⟨p0, q0, f0, g0⟩ := F.pair0 23 _ _ rfl; obtain ⟨p1, q1, f1, g1⟩ := F.pair1 23 _ _ rfl)) | (go_at_call 15; ((with_reducible refine (contains_r (-2147483648) 2147483647 n _ X1.out _).mono ?_); rintro e w1 ⟨rfl, hb⟩; have F : Fr w w1 [(23, #[.int .i32 a, .int .i32 b]), (23, #[.int .i32 c, .int .i32 d])] := (by first | exact F.call hb | exact (F.drewN _).call hb | exact F.drew.call hb | exact (F.alloc _).call hb | exact ((F.alloc _).alloc _).call hb | exact (F.drew.alloc _).call hb | exact ((F.drew.alloc _).alloc _).call hb | exact (F.alloc _).drew.call hb | exact ((F.alloc _).alloc _).drew.call hb); obtain ⟨p0, q0, f0, g0⟩ := F.pair0 23 _ _ rfl; obtain ⟨p1, q1, f1, g1⟩ := F.pair1 23 _ _ rfl)) | (go_at_call 18; ((with_reducible refine (empty_c _).mono ?_); rintro e w1 ⟨rfl, hb⟩; have F : Fr w w1 [(23, #[.int .i32 a, .int .i32 b]), (23, #[.int .i32 c, .int .i32 d])] := (by first | exact F.call hb | exact (F.drewN _).call hb | exact F.drew.call hb | exact (F.alloc _).call hb | exact ((F.alloc _).alloc _).call hb | exact (F.drew.alloc _).call hb | exact ((F.drew.alloc _).alloc _).call hb | exact (F.alloc _).drew.call hb | exact ((F.alloc _).alloc _).drew.call hb); obtain ⟨p0, q0, f0, g0⟩ := F.pair0 23 _ _ rfl; obtain ⟨p1, q1, f1, g1⟩ := F.pair1 23 _ _ rfl)) | (go_at_call 15; ((with_reducible refine (contains_r 1 0 n _ X2.out _).mono ?_); rintro e w1 ⟨rfl, hb⟩; have F : Fr w w1 [(23, #[.int .i32 a, .int .i32 b]), (23, #[.int .i32 c, .int .i32 d])] := (by first | exact F.call hb | exact (F.drewN _).call hb | exact F.drew.call hb | exact (F.alloc _).call hb | exact ((F.alloc _).alloc _).call hb | exact (F.drew.alloc _).call hb | exact ((F.drew.alloc _).alloc _).call hb | exact (F.alloc _).drew.call hb | exact ((F.alloc _).alloc _).drew.call hb); obtain ⟨p0, q0, f0, g0⟩ := F.pair0 23 _ _ rfl; obtain ⟨p1, q1, f1, g1⟩ := F.pair1 23 _ _ rfl)))
  refine start_ (n := 17) (S := fun w' => w'.cell? ⟨w.heap.size, 0, none⟩ = some (.int .i32 a) ∧ w'.cell? ⟨w.heap.size, 1, none⟩ = some (.int .i32 b)) (ds := []) (bl 17 0) (by kernel_rfl) rfl (by kernel_rfl) ⟨p0, q0⟩ (fun hHeld => ?_)
  have F := F.drew
  refine take_ (i := 0) (N := some 34) (v := ?_) (a' := ?_) (bl 17 1) rfl rfl (by kernel_rfl) (fun _ _ _ h => h) (Or.inl ⟨by rfl, ?_⟩) hHeld ?_ ?_
  rotate_left
  · rintro w' ⟨s0, s1⟩
    go_simp
    with_reducible rfl
  rotate_left
  · simp only [Act.put, List.setIfInBounds_toArray, List.set_cons_zero, List.set_cons_succ, i64_w, i32_w]
    rfl
  refine pure_ (i := 1) (N := some 35) (v := ?_) (a' := ?_) (bl 17 3) rfl rfl (by kernel_rfl) (fun _ _ _ h => h) (Or.inl ⟨by rfl, ?_⟩) ?_ ?_
  rotate_left
  · intro w'
    go_simp
    with_reducible rfl
  rotate_left
  · simp only [Act.put, List.setIfInBounds_toArray, List.set_cons_zero, List.set_cons_succ, i64_w, i32_w]
    rfl
  refine take_ (i := 3) (N := some 37) (v := ?_) (a' := ?_) (bl 17 11) rfl rfl (by kernel_rfl) (fun _ _ _ h => h) (Or.inl ⟨by rfl, ?_⟩) hHeld ?_ ?_
  rotate_left
  · rintro w' ⟨s0, s1⟩
    go_simp
    with_reducible rfl
  rotate_left
  · simp only [Act.put, List.setIfInBounds_toArray, List.set_cons_zero, List.set_cons_succ, i64_w, i32_w]
    rfl
  refine pure_ (i := 4) (N := some 38) (v := ?_) (a' := ?_) (bl 17 27) rfl rfl (by kernel_rfl) (fun _ _ _ h => h) (Or.inl ⟨by rfl, ?_⟩) ?_ ?_
  rotate_left
  · intro w'
    go_simp
    with_reducible rfl
  rotate_left
  · simp only [Act.put, List.setIfInBounds_toArray, List.set_cons_zero, List.set_cons_succ, i64_w, i32_w]
    rfl
  refine one_ (i := 2) (N := some 36) (bl 17 31) rfl rfl (by kernel_rfl) (by decide) (fun K hK => ?_)
  rw [if_pos (by rfl)]
  go_simp
  go_at_call 15
  (with_reducible refine (contains_r a b n _ HR.out _).mono ?_)
  rintro e w1 ⟨rfl, hb⟩
  have F : Fr w w1 [(23, #[.int .i32 a, .int .i32 b]), (23, #[.int .i32 c, .int .i32 d])] := F.call hb
  obtain ⟨p0, q0, f0, g0⟩ := F.pair0 23 _ _ rfl
  obtain ⟨p1, q1, f1, g1⟩ := F.pair1 23 _ _ rfl
  refine hK.out _ _ ⟨p0, q0⟩ (fun hHeld => ?_)
  clear hK K
  refine one_ (i := 5) (N := some 39) (bl 17 63) rfl rfl (by kernel_rfl) (by decide) (fun K hK => ?_)
  rw [if_pos (by rfl)]
  go_simp
  go_at_call 16
  (with_reducible refine (has_r a b n _ HR.out _).mono ?_)
  rintro e w1 ⟨rfl, hb⟩
  have F : Fr w w1 [(23, #[.int .i32 a, .int .i32 b]), (23, #[.int .i32 c, .int .i32 d])] := F.call hb
  obtain ⟨p0, q0, f0, g0⟩ := F.pair0 23 _ _ rfl
  obtain ⟨p1, q1, f1, g1⟩ := F.pair1 23 _ _ rfl
  refine hK.out _ _ ⟨p0, q0⟩ (fun hHeld => ?_)
  clear hK K
  refine pure_ (i := 6) (N := some 40) (v := ?_) (a' := ?_) (bl 17 127) rfl rfl (by kernel_rfl) (fun _ _ _ h => h) (Or.inl ⟨by rfl, ?_⟩) ?_ ?_
  rotate_left
  · intro w'
    go_simp
    with_reducible rfl
  rotate_left
  · simp only [Act.put, List.setIfInBounds_toArray, List.set_cons_zero, List.set_cons_succ, i64_w, i32_w]
    rfl
  refine pure_ (i := 7) (N := some 41) (v := ?_) (a' := ?_) (bl 17 255) rfl rfl (by kernel_rfl) (fun _ _ _ h => h) (Or.inl ⟨by rfl, ?_⟩) ?_ ?_
  rotate_left
  · intro w'
    go_simp
    with_reducible rfl
  rotate_left
  · simp only [Act.put, List.setIfInBounds_toArray, List.set_cons_zero, List.set_cons_succ, i64_w, i32_w]
    rfl
  refine take_ (i := 8) (N := some 42) (v := ?_) (a' := ?_) (bl 17 511) rfl rfl (by kernel_rfl) (fun _ _ _ h => h) (Or.inl ⟨by rfl, ?_⟩) hHeld ?_ ?_
  rotate_left
  · rintro w' ⟨s0, s1⟩
    go_simp
    with_reducible rfl
  rotate_left
  · simp only [Act.put, List.setIfInBounds_toArray, List.set_cons_zero, List.set_cons_succ, i64_w, i32_w]
    rfl
  refine pure_ (i := 10) (N := some 44) (v := ?_) (a' := ?_) (bl 17 1535) rfl rfl (by kernel_rfl) (fun _ _ _ h => h) (Or.inl ⟨by rfl, ?_⟩) ?_ ?_
  rotate_left
  · intro w'
    go_simp
    with_reducible rfl
  rotate_left
  · simp only [Act.put, List.setIfInBounds_toArray, List.set_cons_zero, List.set_cons_succ, i64_w, i32_w]
    rfl
  refine take_ (i := 11) (N := some 45) (v := ?_) (a' := ?_) (bl 17 3583) rfl rfl (by kernel_rfl) (fun _ _ _ h => h) (Or.inl ⟨by rfl, ?_⟩) hHeld ?_ ?_
  rotate_left
  · rintro w' ⟨s0, s1⟩
    go_simp
    with_reducible rfl
  rotate_left
  · simp only [Act.put, List.setIfInBounds_toArray, List.set_cons_zero, List.set_cons_succ, i64_w, i32_w]
    rfl
  refine pure_ (i := 12) (N := some 46) (v := ?_) (a' := ?_) (bl 17 7679) rfl rfl (by kernel_rfl) (fun _ _ _ h => h) (Or.inl ⟨by rfl, ?_⟩) ?_ ?_
  rotate_left
  · intro w'
    go_simp
    with_reducible rfl
  rotate_left
  · simp only [Act.put, List.setIfInBounds_toArray, List.set_cons_zero, List.set_cons_succ, i64_w, i32_w]
    rfl
  refine take_ (i := 13) (N := some 47) (v := ?_) (a' := ?_) (bl 17 15871) rfl rfl (by kernel_rfl) (fun _ _ _ h => h) (Or.inl ⟨by rfl, ?_⟩) hHeld ?_ ?_
  rotate_left
  · rintro w' ⟨s0, s1⟩
    go_simp
    with_reducible rfl
  rotate_left
  · simp only [Act.put, List.setIfInBounds_toArray, List.set_cons_zero, List.set_cons_succ, i64_w, i32_w]
    rfl
  refine pure_ (i := 14) (N := some 48) (v := ?_) (a' := ?_) (bl 17 32255) rfl rfl (by kernel_rfl) (fun _ _ _ h => h) (Or.inl ⟨by rfl, ?_⟩) ?_ ?_
  rotate_left
  · intro w'
    go_simp
    with_reducible rfl
  rotate_left
  · simp only [Act.put, List.setIfInBounds_toArray, List.set_cons_zero, List.set_cons_succ, i64_w, i32_w]
    rfl
  refine one_ (i := 9) (N := some 43) (bl 17 32767) rfl rfl (by kernel_rfl) (by decide) (fun K hK => ?_)
  rw [if_pos (by rfl)]
  go_simp
  go_at_call 17
  (with_reducible refine (isEmpty_r a b _ X6.out _).mono ?_)
  rintro e w1 ⟨rfl, hb⟩
  have F : Fr w w1 [(23, #[.int .i32 a, .int .i32 b]), (23, #[.int .i32 c, .int .i32 d])] := F.call hb
  obtain ⟨p0, q0, f0, g0⟩ := F.pair0 23 _ _ rfl
  obtain ⟨p1, q1, f1, g1⟩ := F.pair1 23 _ _ rfl
  refine hK.out _ _ ⟨p0, q0⟩ (fun hHeld => ?_)
  clear hK K
  refine pure_ (i := 15) (N := some 49) (v := ?_) (a' := ?_) (bl 17 65535) rfl rfl (by kernel_rfl) (fun _ _ _ h => h) (Or.inl ⟨by rfl, ?_⟩) ?_ ?_
  rotate_left
  · intro w'
    go_simp
    with_reducible rfl
  rotate_left
  · simp only [Act.put, List.setIfInBounds_toArray, List.set_cons_zero, List.set_cons_succ, i64_w, i32_w]
    rfl
  refine pure_ (i := 16) (N := some 50) (v := ?_) (a' := ?_) (bl 17 131071) rfl rfl (by kernel_rfl) (fun _ _ _ h => h) (Or.inl ⟨by rfl, ?_⟩) ?_ ?_
  rotate_left
  · intro w'
    go_simp
    with_reducible rfl
  rotate_left
  · simp only [Act.put, List.setIfInBounds_toArray, List.set_cons_zero, List.set_cons_succ, i64_w, i32_w]
    rfl
  refine done_ (by kernel_rfl) ?_
  go_wp2_with (first | (go_at_call 16; ((with_reducible refine (has_r c d a _ HU.out _).mono ?_); rintro e w1 ⟨rfl, hb⟩; have F : Fr w w1 [(23, #[.int .i32 a, .int .i32 b]), (23, #[.int .i32 c, .int .i32 d])] := (by first | exact F.call hb | exact (F.drewN _).call hb | exact F.drew.call hb | exact (F.alloc _).call hb | exact ((F.alloc _).alloc _).call hb | exact (F.drew.alloc _).call hb | exact ((F.drew.alloc _).alloc _).call hb | exact (F.alloc _).drew.call hb | exact ((F.alloc _).alloc _).drew.call hb); obtain ⟨p0, q0, f0, g0⟩ := F.pair0 23 _ _ rfl; obtain ⟨p1, q1, f1, g1⟩ := F.pair1 23 _ _ rfl)))
  refine start_ (n := 21) (S := fun w' => w'.cell? ⟨w.heap.size, 0, none⟩ = some (.int .i32 a) ∧ w'.cell? ⟨w.heap.size, 1, none⟩ = some (.int .i32 b) ∧ w'.cell? ⟨w.heap.size + 1, 0, none⟩ = some (.int .i32 c) ∧ w'.cell? ⟨w.heap.size + 1, 1, none⟩ = some (.int .i32 d)) (ds := []) (bl 21 0) (by kernel_rfl) rfl (by kernel_rfl) ⟨p0, q0, p1, q1⟩ (fun hHeld => ?_)
  have F := F.drew
  refine take_ (i := 0) (N := some 68) (v := ?_) (a' := ?_) (bl 21 1) rfl rfl (by kernel_rfl) (fun _ _ _ h => h) (Or.inl ⟨by rfl, ?_⟩) hHeld ?_ ?_
  rotate_left
  · rintro w' ⟨s0, s1, s2, s3⟩
    go_simp
    with_reducible rfl
  rotate_left
  · simp only [Act.put, List.setIfInBounds_toArray, List.set_cons_zero, List.set_cons_succ, i64_w, i32_w]
    rfl
  refine take_ (i := 1) (N := some 69) (v := ?_) (a' := ?_) (bl 21 3) rfl rfl (by kernel_rfl) (fun _ _ _ h => h) (Or.inl ⟨by rfl, ?_⟩) hHeld ?_ ?_
  rotate_left
  · rintro w' ⟨s0, s1, s2, s3⟩
    go_simp
    with_reducible rfl
  rotate_left
  · simp only [Act.put, List.setIfInBounds_toArray, List.set_cons_zero, List.set_cons_succ, i64_w, i32_w]
    rfl
  refine pure_ (i := 3) (N := some 71) (v := ?_) (a' := ?_) (bl 21 11) rfl rfl (by kernel_rfl) (fun _ _ _ h => h) (Or.inl ⟨by rfl, ?_⟩) ?_ ?_
  rotate_left
  · intro w'
    go_simp
    with_reducible rfl
  rotate_left
  · simp only [Act.put, List.setIfInBounds_toArray, List.set_cons_zero, List.set_cons_succ, i64_w, i32_w]
    rfl
  refine one_ (i := 2) (N := some 70) (bl 21 15) rfl rfl (by kernel_rfl) (by decide) (fun K hK => ?_)
  rw [if_pos (by rfl)]
  go_simp
  go_at_call 14
  (with_reducible refine (within_r a b c d _ HW.out _).mono ?_)
  rintro e w1 ⟨rfl, hb⟩
  have F : Fr w w1 [(23, #[.int .i32 a, .int .i32 b]), (23, #[.int .i32 c, .int .i32 d])] := F.call hb
  obtain ⟨p0, q0, f0, g0⟩ := F.pair0 23 _ _ rfl
  obtain ⟨p1, q1, f1, g1⟩ := F.pair1 23 _ _ rfl
  refine hK.out _ _ ⟨p0, q0, p1, q1⟩ (fun hHeld => ?_)
  clear hK K
  refine pure_ (i := 4) (N := some 72) (v := ?_) (a' := ?_) (bl 21 31) rfl rfl (by kernel_rfl) (fun _ _ _ h => h) (Or.inl ⟨by rfl, ?_⟩) ?_ ?_
  rotate_left
  · intro w'
    go_simp
    with_reducible rfl
  rotate_left
  · simp only [Act.put, List.setIfInBounds_toArray, List.set_cons_zero, List.set_cons_succ, i64_w, i32_w]
    rfl
  refine pure_ (i := 5) (N := some 73) (v := ?_) (a' := ?_) (bl 21 63) rfl rfl (by kernel_rfl) (fun _ _ _ h => h) (Or.inl ⟨by rfl, ?_⟩) ?_ ?_
  rotate_left
  · intro w'
    go_simp
    with_reducible rfl
  rotate_left
  · simp only [Act.put, List.setIfInBounds_toArray, List.set_cons_zero, List.set_cons_succ, i64_w, i32_w]
    rfl
  refine take_ (i := 6) (N := some 74) (v := ?_) (a' := ?_) (bl 21 127) rfl rfl (by kernel_rfl) (fun _ _ _ h => h) (Or.inl ⟨by rfl, ?_⟩) hHeld ?_ ?_
  rotate_left
  · rintro w' ⟨s0, s1, s2, s3⟩
    go_simp
    with_reducible rfl
  rotate_left
  · simp only [Act.put, List.setIfInBounds_toArray, List.set_cons_zero, List.set_cons_succ, i64_w, i32_w]
    rfl
  refine take_ (i := 7) (N := some 75) (v := ?_) (a' := ?_) (bl 21 255) rfl rfl (by kernel_rfl) (fun _ _ _ h => h) (Or.inl ⟨by rfl, ?_⟩) hHeld ?_ ?_
  rotate_left
  · rintro w' ⟨s0, s1, s2, s3⟩
    go_simp
    with_reducible rfl
  rotate_left
  · simp only [Act.put, List.setIfInBounds_toArray, List.set_cons_zero, List.set_cons_succ, i64_w, i32_w]
    rfl
  refine one_ (i := 8) (N := some 76) (bl 21 511) rfl rfl (by kernel_rfl) (by decide) (fun K hK => ?_)
  rw [if_pos (by rfl)]
  go_simp
  go_at_call 14
  (with_reducible refine (within_r a b a b _ X3.out _).mono ?_)
  rintro e w1 ⟨rfl, hb⟩
  have F : Fr w w1 [(23, #[.int .i32 a, .int .i32 b]), (23, #[.int .i32 c, .int .i32 d])] := F.call hb
  obtain ⟨p0, q0, f0, g0⟩ := F.pair0 23 _ _ rfl
  obtain ⟨p1, q1, f1, g1⟩ := F.pair1 23 _ _ rfl
  refine hK.out _ _ ⟨p0, q0, p1, q1⟩ (fun hHeld => ?_)
  clear hK K
  refine pure_ (i := 9) (N := some 77) (v := ?_) (a' := ?_) (bl 21 1023) rfl rfl (by kernel_rfl) (fun _ _ _ h => h) (Or.inl ⟨by rfl, ?_⟩) ?_ ?_
  rotate_left
  · intro w'
    go_simp
    with_reducible rfl
  rotate_left
  · simp only [Act.put, List.setIfInBounds_toArray, List.set_cons_zero, List.set_cons_succ, i64_w, i32_w]
    rfl
  refine pure_ (i := 10) (N := some 78) (v := ?_) (a' := ?_) (bl 21 2047) rfl rfl (by kernel_rfl) (fun _ _ _ h => h) (Or.inl ⟨by rfl, ?_⟩) ?_ ?_
  rotate_left
  · intro w'
    go_simp
    with_reducible rfl
  rotate_left
  · simp only [Act.put, List.setIfInBounds_toArray, List.set_cons_zero, List.set_cons_succ, i64_w, i32_w]
    rfl
  refine take_ (i := 12) (N := some 80) (v := ?_) (a' := ?_) (bl 21 6143) rfl rfl (by kernel_rfl) (fun _ _ _ h => h) (Or.inl ⟨by rfl, ?_⟩) hHeld ?_ ?_
  rotate_left
  · rintro w' ⟨s0, s1, s2, s3⟩
    go_simp
    with_reducible rfl
  rotate_left
  · simp only [Act.put, List.setIfInBounds_toArray, List.set_cons_zero, List.set_cons_succ, i64_w, i32_w]
    rfl
  refine one_ (i := 11) (N := some 79) (bl 21 8191) rfl rfl (by kernel_rfl) (by decide) (fun K hK => ?_)
  rw [if_pos (by rfl)]
  go_simp
  go_at_call 18
  (with_reducible refine (empty_c _).mono ?_)
  rintro e w1 ⟨rfl, hb⟩
  have F : Fr w w1 [(23, #[.int .i32 a, .int .i32 b]), (23, #[.int .i32 c, .int .i32 d])] := F.call hb
  obtain ⟨p0, q0, f0, g0⟩ := F.pair0 23 _ _ rfl
  obtain ⟨p1, q1, f1, g1⟩ := F.pair1 23 _ _ rfl
  refine hK.out _ _ ⟨p0, q0, p1, q1⟩ (fun hHeld => ?_)
  clear hK K
  refine one_ (i := 13) (N := some 81) (bl 21 16383) rfl rfl (by kernel_rfl) (by decide) (fun K hK => ?_)
  rw [if_pos (by rfl)]
  go_simp
  go_at_call 14
  (with_reducible refine (within_r 1 0 a b _ X4.out _).mono ?_)
  rintro e w1 ⟨rfl, hb⟩
  have F : Fr w w1 [(23, #[.int .i32 a, .int .i32 b]), (23, #[.int .i32 c, .int .i32 d])] := F.call hb
  obtain ⟨p0, q0, f0, g0⟩ := F.pair0 23 _ _ rfl
  obtain ⟨p1, q1, f1, g1⟩ := F.pair1 23 _ _ rfl
  refine hK.out _ _ ⟨p0, q0, p1, q1⟩ (fun hHeld => ?_)
  clear hK K
  refine pure_ (i := 14) (N := some 82) (v := ?_) (a' := ?_) (bl 21 32767) rfl rfl (by kernel_rfl) (fun _ _ _ h => h) (Or.inl ⟨by rfl, ?_⟩) ?_ ?_
  rotate_left
  · intro w'
    go_simp
    with_reducible rfl
  rotate_left
  · simp only [Act.put, List.setIfInBounds_toArray, List.set_cons_zero, List.set_cons_succ, i64_w, i32_w]
    rfl
  refine pure_ (i := 15) (N := some 83) (v := ?_) (a' := ?_) (bl 21 65535) rfl rfl (by kernel_rfl) (fun _ _ _ h => h) (Or.inl ⟨by rfl, ?_⟩) ?_ ?_
  rotate_left
  · intro w'
    go_simp
    with_reducible rfl
  rotate_left
  · simp only [Act.put, List.setIfInBounds_toArray, List.set_cons_zero, List.set_cons_succ, i64_w, i32_w]
    rfl
  refine take_ (i := 16) (N := some 84) (v := ?_) (a' := ?_) (bl 21 131071) rfl rfl (by kernel_rfl) (fun _ _ _ h => h) (Or.inl ⟨by rfl, ?_⟩) hHeld ?_ ?_
  rotate_left
  · rintro w' ⟨s0, s1, s2, s3⟩
    go_simp
    with_reducible rfl
  rotate_left
  · simp only [Act.put, List.setIfInBounds_toArray, List.set_cons_zero, List.set_cons_succ, i64_w, i32_w]
    rfl
  refine one_ (i := 17) (N := some 85) (bl 21 262143) rfl rfl (by kernel_rfl) (by decide) (fun K hK => ?_)
  rw [if_pos (by rfl)]
  go_simp
  go_at_call 25
  (with_reducible refine (full_c _).mono ?_)
  rintro e w1 ⟨rfl, hb⟩
  have F : Fr w w1 [(23, #[.int .i32 a, .int .i32 b]), (23, #[.int .i32 c, .int .i32 d])] := F.call hb
  obtain ⟨p0, q0, f0, g0⟩ := F.pair0 23 _ _ rfl
  obtain ⟨p1, q1, f1, g1⟩ := F.pair1 23 _ _ rfl
  refine hK.out _ _ ⟨p0, q0, p1, q1⟩ (fun hHeld => ?_)
  clear hK K
  refine one_ (i := 18) (N := some 86) (bl 21 524287) rfl rfl (by kernel_rfl) (by decide) (fun K hK => ?_)
  rw [if_pos (by rfl)]
  go_simp
  go_at_call 14
  (with_reducible refine (within_r a b (-2147483648) 2147483647 _ X5.out _).mono ?_)
  rintro e w1 ⟨rfl, hb⟩
  have F : Fr w w1 [(23, #[.int .i32 a, .int .i32 b]), (23, #[.int .i32 c, .int .i32 d])] := F.call hb
  obtain ⟨p0, q0, f0, g0⟩ := F.pair0 23 _ _ rfl
  obtain ⟨p1, q1, f1, g1⟩ := F.pair1 23 _ _ rfl
  refine hK.out _ _ ⟨p0, q0, p1, q1⟩ (fun hHeld => ?_)
  clear hK K
  refine pure_ (i := 19) (N := some 87) (v := ?_) (a' := ?_) (bl 21 1048575) rfl rfl (by kernel_rfl) (fun _ _ _ h => h) (Or.inl ⟨by rfl, ?_⟩) ?_ ?_
  rotate_left
  · intro w'
    go_simp
    with_reducible rfl
  rotate_left
  · simp only [Act.put, List.setIfInBounds_toArray, List.set_cons_zero, List.set_cons_succ, i64_w, i32_w]
    rfl
  refine pure_ (i := 20) (N := some 6) (v := ?_) (a' := ?_) (bl 21 2097151) rfl rfl (by kernel_rfl) (fun _ _ _ h => h) (Or.inl ⟨by rfl, ?_⟩) ?_ ?_
  rotate_left
  · intro w'
    go_simp
    with_reducible rfl
  rotate_left
  · simp only [Act.put, List.setIfInBounds_toArray, List.set_cons_zero, List.set_cons_succ, i64_w, i32_w]
    rfl
  refine done_ (by kernel_rfl) ?_
  go_wp2
  go_ret
  exact ⟨by first | rfl | (simp; done), F.below⟩
  

set_option maxRecDepth 100000 in
set_option maxHeartbeats 8000000 in
theorem sets_tf (a b c d n : Int) (r : Bool) (hr : ct a b n = r) (hg : a ≤ b) (hu : ct c d a = true) (hv : ct c d b = false) (hw : wi a b c d = false) (ha : -2147483648 ≤ a) (hb1 : b ≤ 2147483647) (hn : -2147483648 ≤ n) (hn1 : n ≤ 2147483647) (w : World) :
    Calls Try.prog 10 #[.agg #[.int .i32 a, .int .i32 b], .agg #[.int .i32 c, .int .i32 d], .int .i32 n] w fun e w' => e = .returned (.bool true) ∧ Below w.heap.size w w' := by
  have X1 := Lib.hid (show ct (-2147483648) 2147483647 n = true by unfold ct; simp only [decide_eq_true_eq]; omega)
  have X2 := Lib.hid (show ct 1 0 n = false by unfold ct; simp only [decide_eq_false_iff_not]; omega)
  have X3 := Lib.hid (show wi a b a b = true by unfold wi; simp only [decide_eq_true_eq]; omega)
  have X4 := Lib.hid (show wi 1 0 a b = true by unfold wi; simp only [decide_eq_true_eq]; omega)
  have X5 := Lib.hid (show wi a b (-2147483648) 2147483647 = true by unfold wi; simp only [decide_eq_true_eq]; omega)
  have X6 := Lib.hid (show decide (a > b) = false by exact decide_eq_false (by omega))
  have hgb : decide (b < a) = false := decide_eq_false (by omega)
  have HR := Lib.hid hr
  have HW := Lib.hid hw
  clear hr hw
  have HU := Lib.hid hu
  clear hu
  have HV := Lib.hid hv
  clear hv
  have F := Fr.two w 23 #[.int .i32 a, .int .i32 b] 23 #[.int .i32 c, .int .i32 d]
  obtain ⟨p0, q0, f0, g0⟩ := F.pair0 23 _ _ rfl; obtain ⟨p1, q1, f1, g1⟩ := F.pair1 23 _ _ rfl
  have hu23 := Try.underlying23
  go_enter Try.func10, Try.ntmps10
  go_wp2_with (first | (go_at_call 13; ((with_reducible refine (awake_c _).mono ?_); rintro e w1 ⟨rfl, hb⟩; have F : Fr w w1 [(23, #[.int .i32 a, .int .i32 b]), (23, #[.int .i32 c, .int .i32 d])] := (by first | exact F.call hb | exact (F.drewN _).call hb | exact F.drew.call hb | exact (F.alloc _).call hb | exact ((F.alloc _).alloc _).call hb | exact (F.drew.alloc _).call hb | exact ((F.drew.alloc _).alloc _).call hb | exact (F.alloc _).drew.call hb | exact ((F.alloc _).alloc _).drew.call hb); obtain ⟨p0, q0, f0, g0⟩ := F.pair0 23 _ _ rfl; obtain ⟨p1, q1, f1, g1⟩ := F.pair1 23 _ _ rfl)) | (go_at_call 27; ((with_reducible refine (of_c _ _).mono ?_); rintro e w1 ⟨rfl, hb⟩; have F : Fr w w1 [(23, #[.int .i32 a, .int .i32 b]), (23, #[.int .i32 c, .int .i32 d])] := (by first | exact F.call hb | exact (F.drewN _).call hb | exact F.drew.call hb | exact (F.alloc _).call hb | exact ((F.alloc _).alloc _).call hb | exact (F.drew.alloc _).call hb | exact ((F.drew.alloc _).alloc _).call hb | exact (F.alloc _).drew.call hb | exact ((F.alloc _).alloc _).drew.call hb); obtain ⟨p0, q0, f0, g0⟩ := F.pair0 23 _ _ rfl; obtain ⟨p1, q1, f1, g1⟩ := F.pair1 23 _ _ rfl)) | (go_at_call 25; ((with_reducible refine (full_c _).mono ?_); rintro e w1 ⟨rfl, hb⟩; have F : Fr w w1 [(23, #[.int .i32 a, .int .i32 b]), (23, #[.int .i32 c, .int .i32 d])] := (by first | exact F.call hb | exact (F.drewN _).call hb | exact F.drew.call hb | exact (F.alloc _).call hb | exact ((F.alloc _).alloc _).call hb | exact (F.drew.alloc _).call hb | exact ((F.drew.alloc _).alloc _).call hb | exact (F.alloc _).drew.call hb | exact ((F.alloc _).alloc _).drew.call hb); obtain ⟨p0, q0, f0, g0⟩ := F.pair0 23 _ _ rfl; obtain ⟨p1, q1, f1, g1⟩ := F.pair1 23 _ _ rfl)) | (go_at_call 15; ((with_reducible refine (contains_r (-2147483648) 2147483647 n _ X1.out _).mono ?_); rintro e w1 ⟨rfl, hb⟩; have F : Fr w w1 [(23, #[.int .i32 a, .int .i32 b]), (23, #[.int .i32 c, .int .i32 d])] := (by first | exact F.call hb | exact (F.drewN _).call hb | exact F.drew.call hb | exact (F.alloc _).call hb | exact ((F.alloc _).alloc _).call hb | exact (F.drew.alloc _).call hb | exact ((F.drew.alloc _).alloc _).call hb | exact (F.alloc _).drew.call hb | exact ((F.alloc _).alloc _).drew.call hb); obtain ⟨p0, q0, f0, g0⟩ := F.pair0 23 _ _ rfl; obtain ⟨p1, q1, f1, g1⟩ := F.pair1 23 _ _ rfl)) | (go_at_call 18; ((with_reducible refine (empty_c _).mono ?_); rintro e w1 ⟨rfl, hb⟩; have F : Fr w w1 [(23, #[.int .i32 a, .int .i32 b]), (23, #[.int .i32 c, .int .i32 d])] := (by first | exact F.call hb | exact (F.drewN _).call hb | exact F.drew.call hb | exact (F.alloc _).call hb | exact ((F.alloc _).alloc _).call hb | exact (F.drew.alloc _).call hb | exact ((F.drew.alloc _).alloc _).call hb | exact (F.alloc _).drew.call hb | exact ((F.alloc _).alloc _).drew.call hb); obtain ⟨p0, q0, f0, g0⟩ := F.pair0 23 _ _ rfl; obtain ⟨p1, q1, f1, g1⟩ := F.pair1 23 _ _ rfl)) | (go_at_call 15; ((with_reducible refine (contains_r 1 0 n _ X2.out _).mono ?_); rintro e w1 ⟨rfl, hb⟩; have F : Fr w w1 [(23, #[.int .i32 a, .int .i32 b]), (23, #[.int .i32 c, .int .i32 d])] := (by first | exact F.call hb | exact (F.drewN _).call hb | exact F.drew.call hb | exact (F.alloc _).call hb | exact ((F.alloc _).alloc _).call hb | exact (F.drew.alloc _).call hb | exact ((F.drew.alloc _).alloc _).call hb | exact (F.alloc _).drew.call hb | exact ((F.alloc _).alloc _).drew.call hb); obtain ⟨p0, q0, f0, g0⟩ := F.pair0 23 _ _ rfl; obtain ⟨p1, q1, f1, g1⟩ := F.pair1 23 _ _ rfl)))
  refine start_ (n := 17) (S := fun w' => w'.cell? ⟨w.heap.size, 0, none⟩ = some (.int .i32 a) ∧ w'.cell? ⟨w.heap.size, 1, none⟩ = some (.int .i32 b)) (ds := []) (bl 17 0) (by kernel_rfl) rfl (by kernel_rfl) ⟨p0, q0⟩ (fun hHeld => ?_)
  have F := F.drew
  refine take_ (i := 0) (N := some 34) (v := ?_) (a' := ?_) (bl 17 1) rfl rfl (by kernel_rfl) (fun _ _ _ h => h) (Or.inl ⟨by rfl, ?_⟩) hHeld ?_ ?_
  rotate_left
  · rintro w' ⟨s0, s1⟩
    go_simp
    with_reducible rfl
  rotate_left
  · simp only [Act.put, List.setIfInBounds_toArray, List.set_cons_zero, List.set_cons_succ, i64_w, i32_w]
    rfl
  refine pure_ (i := 1) (N := some 35) (v := ?_) (a' := ?_) (bl 17 3) rfl rfl (by kernel_rfl) (fun _ _ _ h => h) (Or.inl ⟨by rfl, ?_⟩) ?_ ?_
  rotate_left
  · intro w'
    go_simp
    with_reducible rfl
  rotate_left
  · simp only [Act.put, List.setIfInBounds_toArray, List.set_cons_zero, List.set_cons_succ, i64_w, i32_w]
    rfl
  refine take_ (i := 3) (N := some 37) (v := ?_) (a' := ?_) (bl 17 11) rfl rfl (by kernel_rfl) (fun _ _ _ h => h) (Or.inl ⟨by rfl, ?_⟩) hHeld ?_ ?_
  rotate_left
  · rintro w' ⟨s0, s1⟩
    go_simp
    with_reducible rfl
  rotate_left
  · simp only [Act.put, List.setIfInBounds_toArray, List.set_cons_zero, List.set_cons_succ, i64_w, i32_w]
    rfl
  refine pure_ (i := 4) (N := some 38) (v := ?_) (a' := ?_) (bl 17 27) rfl rfl (by kernel_rfl) (fun _ _ _ h => h) (Or.inl ⟨by rfl, ?_⟩) ?_ ?_
  rotate_left
  · intro w'
    go_simp
    with_reducible rfl
  rotate_left
  · simp only [Act.put, List.setIfInBounds_toArray, List.set_cons_zero, List.set_cons_succ, i64_w, i32_w]
    rfl
  refine one_ (i := 2) (N := some 36) (bl 17 31) rfl rfl (by kernel_rfl) (by decide) (fun K hK => ?_)
  rw [if_pos (by rfl)]
  go_simp
  go_at_call 15
  (with_reducible refine (contains_r a b n _ HR.out _).mono ?_)
  rintro e w1 ⟨rfl, hb⟩
  have F : Fr w w1 [(23, #[.int .i32 a, .int .i32 b]), (23, #[.int .i32 c, .int .i32 d])] := F.call hb
  obtain ⟨p0, q0, f0, g0⟩ := F.pair0 23 _ _ rfl
  obtain ⟨p1, q1, f1, g1⟩ := F.pair1 23 _ _ rfl
  refine hK.out _ _ ⟨p0, q0⟩ (fun hHeld => ?_)
  clear hK K
  refine one_ (i := 5) (N := some 39) (bl 17 63) rfl rfl (by kernel_rfl) (by decide) (fun K hK => ?_)
  rw [if_pos (by rfl)]
  go_simp
  go_at_call 16
  (with_reducible refine (has_r a b n _ HR.out _).mono ?_)
  rintro e w1 ⟨rfl, hb⟩
  have F : Fr w w1 [(23, #[.int .i32 a, .int .i32 b]), (23, #[.int .i32 c, .int .i32 d])] := F.call hb
  obtain ⟨p0, q0, f0, g0⟩ := F.pair0 23 _ _ rfl
  obtain ⟨p1, q1, f1, g1⟩ := F.pair1 23 _ _ rfl
  refine hK.out _ _ ⟨p0, q0⟩ (fun hHeld => ?_)
  clear hK K
  refine pure_ (i := 6) (N := some 40) (v := ?_) (a' := ?_) (bl 17 127) rfl rfl (by kernel_rfl) (fun _ _ _ h => h) (Or.inl ⟨by rfl, ?_⟩) ?_ ?_
  rotate_left
  · intro w'
    go_simp
    with_reducible rfl
  rotate_left
  · simp only [Act.put, List.setIfInBounds_toArray, List.set_cons_zero, List.set_cons_succ, i64_w, i32_w]
    rfl
  refine pure_ (i := 7) (N := some 41) (v := ?_) (a' := ?_) (bl 17 255) rfl rfl (by kernel_rfl) (fun _ _ _ h => h) (Or.inl ⟨by rfl, ?_⟩) ?_ ?_
  rotate_left
  · intro w'
    go_simp
    with_reducible rfl
  rotate_left
  · simp only [Act.put, List.setIfInBounds_toArray, List.set_cons_zero, List.set_cons_succ, i64_w, i32_w]
    rfl
  refine take_ (i := 8) (N := some 42) (v := ?_) (a' := ?_) (bl 17 511) rfl rfl (by kernel_rfl) (fun _ _ _ h => h) (Or.inl ⟨by rfl, ?_⟩) hHeld ?_ ?_
  rotate_left
  · rintro w' ⟨s0, s1⟩
    go_simp
    with_reducible rfl
  rotate_left
  · simp only [Act.put, List.setIfInBounds_toArray, List.set_cons_zero, List.set_cons_succ, i64_w, i32_w]
    rfl
  refine pure_ (i := 10) (N := some 44) (v := ?_) (a' := ?_) (bl 17 1535) rfl rfl (by kernel_rfl) (fun _ _ _ h => h) (Or.inl ⟨by rfl, ?_⟩) ?_ ?_
  rotate_left
  · intro w'
    go_simp
    with_reducible rfl
  rotate_left
  · simp only [Act.put, List.setIfInBounds_toArray, List.set_cons_zero, List.set_cons_succ, i64_w, i32_w]
    rfl
  refine take_ (i := 11) (N := some 45) (v := ?_) (a' := ?_) (bl 17 3583) rfl rfl (by kernel_rfl) (fun _ _ _ h => h) (Or.inl ⟨by rfl, ?_⟩) hHeld ?_ ?_
  rotate_left
  · rintro w' ⟨s0, s1⟩
    go_simp
    with_reducible rfl
  rotate_left
  · simp only [Act.put, List.setIfInBounds_toArray, List.set_cons_zero, List.set_cons_succ, i64_w, i32_w]
    rfl
  refine pure_ (i := 12) (N := some 46) (v := ?_) (a' := ?_) (bl 17 7679) rfl rfl (by kernel_rfl) (fun _ _ _ h => h) (Or.inl ⟨by rfl, ?_⟩) ?_ ?_
  rotate_left
  · intro w'
    go_simp
    with_reducible rfl
  rotate_left
  · simp only [Act.put, List.setIfInBounds_toArray, List.set_cons_zero, List.set_cons_succ, i64_w, i32_w]
    rfl
  refine take_ (i := 13) (N := some 47) (v := ?_) (a' := ?_) (bl 17 15871) rfl rfl (by kernel_rfl) (fun _ _ _ h => h) (Or.inl ⟨by rfl, ?_⟩) hHeld ?_ ?_
  rotate_left
  · rintro w' ⟨s0, s1⟩
    go_simp
    with_reducible rfl
  rotate_left
  · simp only [Act.put, List.setIfInBounds_toArray, List.set_cons_zero, List.set_cons_succ, i64_w, i32_w]
    rfl
  refine pure_ (i := 14) (N := some 48) (v := ?_) (a' := ?_) (bl 17 32255) rfl rfl (by kernel_rfl) (fun _ _ _ h => h) (Or.inl ⟨by rfl, ?_⟩) ?_ ?_
  rotate_left
  · intro w'
    go_simp
    with_reducible rfl
  rotate_left
  · simp only [Act.put, List.setIfInBounds_toArray, List.set_cons_zero, List.set_cons_succ, i64_w, i32_w]
    rfl
  refine one_ (i := 9) (N := some 43) (bl 17 32767) rfl rfl (by kernel_rfl) (by decide) (fun K hK => ?_)
  rw [if_pos (by rfl)]
  go_simp
  go_at_call 17
  (with_reducible refine (isEmpty_r a b _ X6.out _).mono ?_)
  rintro e w1 ⟨rfl, hb⟩
  have F : Fr w w1 [(23, #[.int .i32 a, .int .i32 b]), (23, #[.int .i32 c, .int .i32 d])] := F.call hb
  obtain ⟨p0, q0, f0, g0⟩ := F.pair0 23 _ _ rfl
  obtain ⟨p1, q1, f1, g1⟩ := F.pair1 23 _ _ rfl
  refine hK.out _ _ ⟨p0, q0⟩ (fun hHeld => ?_)
  clear hK K
  refine pure_ (i := 15) (N := some 49) (v := ?_) (a' := ?_) (bl 17 65535) rfl rfl (by kernel_rfl) (fun _ _ _ h => h) (Or.inl ⟨by rfl, ?_⟩) ?_ ?_
  rotate_left
  · intro w'
    go_simp
    with_reducible rfl
  rotate_left
  · simp only [Act.put, List.setIfInBounds_toArray, List.set_cons_zero, List.set_cons_succ, i64_w, i32_w]
    rfl
  refine pure_ (i := 16) (N := some 50) (v := ?_) (a' := ?_) (bl 17 131071) rfl rfl (by kernel_rfl) (fun _ _ _ h => h) (Or.inl ⟨by rfl, ?_⟩) ?_ ?_
  rotate_left
  · intro w'
    go_simp
    with_reducible rfl
  rotate_left
  · simp only [Act.put, List.setIfInBounds_toArray, List.set_cons_zero, List.set_cons_succ, i64_w, i32_w]
    rfl
  refine done_ (by kernel_rfl) ?_
  go_wp2_with (first | (go_at_call 16; ((with_reducible refine (has_r c d a _ HU.out _).mono ?_); rintro e w1 ⟨rfl, hb⟩; have F : Fr w w1 [(23, #[.int .i32 a, .int .i32 b]), (23, #[.int .i32 c, .int .i32 d])] := (by first | exact F.call hb | exact (F.drewN _).call hb | exact F.drew.call hb | exact (F.alloc _).call hb | exact ((F.alloc _).alloc _).call hb | exact (F.drew.alloc _).call hb | exact ((F.drew.alloc _).alloc _).call hb | exact (F.alloc _).drew.call hb | exact ((F.alloc _).alloc _).drew.call hb); obtain ⟨p0, q0, f0, g0⟩ := F.pair0 23 _ _ rfl; obtain ⟨p1, q1, f1, g1⟩ := F.pair1 23 _ _ rfl)) | (go_at_call 16; ((with_reducible refine (has_r c d b _ HV.out _).mono ?_); rintro e w1 ⟨rfl, hb⟩; have F : Fr w w1 [(23, #[.int .i32 a, .int .i32 b]), (23, #[.int .i32 c, .int .i32 d])] := (by first | exact F.call hb | exact (F.drewN _).call hb | exact F.drew.call hb | exact (F.alloc _).call hb | exact ((F.alloc _).alloc _).call hb | exact (F.drew.alloc _).call hb | exact ((F.drew.alloc _).alloc _).call hb | exact (F.alloc _).drew.call hb | exact ((F.alloc _).alloc _).drew.call hb); obtain ⟨p0, q0, f0, g0⟩ := F.pair0 23 _ _ rfl; obtain ⟨p1, q1, f1, g1⟩ := F.pair1 23 _ _ rfl)))
  refine start_ (n := 21) (S := fun w' => w'.cell? ⟨w.heap.size, 0, none⟩ = some (.int .i32 a) ∧ w'.cell? ⟨w.heap.size, 1, none⟩ = some (.int .i32 b) ∧ w'.cell? ⟨w.heap.size + 1, 0, none⟩ = some (.int .i32 c) ∧ w'.cell? ⟨w.heap.size + 1, 1, none⟩ = some (.int .i32 d)) (ds := []) (bl 21 0) (by kernel_rfl) rfl (by kernel_rfl) ⟨p0, q0, p1, q1⟩ (fun hHeld => ?_)
  have F := F.drew
  refine take_ (i := 0) (N := some 68) (v := ?_) (a' := ?_) (bl 21 1) rfl rfl (by kernel_rfl) (fun _ _ _ h => h) (Or.inl ⟨by rfl, ?_⟩) hHeld ?_ ?_
  rotate_left
  · rintro w' ⟨s0, s1, s2, s3⟩
    go_simp
    with_reducible rfl
  rotate_left
  · simp only [Act.put, List.setIfInBounds_toArray, List.set_cons_zero, List.set_cons_succ, i64_w, i32_w]
    rfl
  refine take_ (i := 1) (N := some 69) (v := ?_) (a' := ?_) (bl 21 3) rfl rfl (by kernel_rfl) (fun _ _ _ h => h) (Or.inl ⟨by rfl, ?_⟩) hHeld ?_ ?_
  rotate_left
  · rintro w' ⟨s0, s1, s2, s3⟩
    go_simp
    with_reducible rfl
  rotate_left
  · simp only [Act.put, List.setIfInBounds_toArray, List.set_cons_zero, List.set_cons_succ, i64_w, i32_w]
    rfl
  refine pure_ (i := 3) (N := some 71) (v := ?_) (a' := ?_) (bl 21 11) rfl rfl (by kernel_rfl) (fun _ _ _ h => h) (Or.inl ⟨by rfl, ?_⟩) ?_ ?_
  rotate_left
  · intro w'
    go_simp
    with_reducible rfl
  rotate_left
  · simp only [Act.put, List.setIfInBounds_toArray, List.set_cons_zero, List.set_cons_succ, i64_w, i32_w]
    rfl
  refine one_ (i := 2) (N := some 70) (bl 21 15) rfl rfl (by kernel_rfl) (by decide) (fun K hK => ?_)
  rw [if_pos (by rfl)]
  go_simp
  go_at_call 14
  (with_reducible refine (within_r a b c d _ HW.out _).mono ?_)
  rintro e w1 ⟨rfl, hb⟩
  have F : Fr w w1 [(23, #[.int .i32 a, .int .i32 b]), (23, #[.int .i32 c, .int .i32 d])] := F.call hb
  obtain ⟨p0, q0, f0, g0⟩ := F.pair0 23 _ _ rfl
  obtain ⟨p1, q1, f1, g1⟩ := F.pair1 23 _ _ rfl
  refine hK.out _ _ ⟨p0, q0, p1, q1⟩ (fun hHeld => ?_)
  clear hK K
  refine pure_ (i := 4) (N := some 72) (v := ?_) (a' := ?_) (bl 21 31) rfl rfl (by kernel_rfl) (fun _ _ _ h => h) (Or.inl ⟨by rfl, ?_⟩) ?_ ?_
  rotate_left
  · intro w'
    go_simp
    with_reducible rfl
  rotate_left
  · simp only [Act.put, List.setIfInBounds_toArray, List.set_cons_zero, List.set_cons_succ, i64_w, i32_w]
    rfl
  refine pure_ (i := 5) (N := some 73) (v := ?_) (a' := ?_) (bl 21 63) rfl rfl (by kernel_rfl) (fun _ _ _ h => h) (Or.inl ⟨by rfl, ?_⟩) ?_ ?_
  rotate_left
  · intro w'
    go_simp
    with_reducible rfl
  rotate_left
  · simp only [Act.put, List.setIfInBounds_toArray, List.set_cons_zero, List.set_cons_succ, i64_w, i32_w]
    rfl
  refine take_ (i := 6) (N := some 74) (v := ?_) (a' := ?_) (bl 21 127) rfl rfl (by kernel_rfl) (fun _ _ _ h => h) (Or.inl ⟨by rfl, ?_⟩) hHeld ?_ ?_
  rotate_left
  · rintro w' ⟨s0, s1, s2, s3⟩
    go_simp
    with_reducible rfl
  rotate_left
  · simp only [Act.put, List.setIfInBounds_toArray, List.set_cons_zero, List.set_cons_succ, i64_w, i32_w]
    rfl
  refine take_ (i := 7) (N := some 75) (v := ?_) (a' := ?_) (bl 21 255) rfl rfl (by kernel_rfl) (fun _ _ _ h => h) (Or.inl ⟨by rfl, ?_⟩) hHeld ?_ ?_
  rotate_left
  · rintro w' ⟨s0, s1, s2, s3⟩
    go_simp
    with_reducible rfl
  rotate_left
  · simp only [Act.put, List.setIfInBounds_toArray, List.set_cons_zero, List.set_cons_succ, i64_w, i32_w]
    rfl
  refine one_ (i := 8) (N := some 76) (bl 21 511) rfl rfl (by kernel_rfl) (by decide) (fun K hK => ?_)
  rw [if_pos (by rfl)]
  go_simp
  go_at_call 14
  (with_reducible refine (within_r a b a b _ X3.out _).mono ?_)
  rintro e w1 ⟨rfl, hb⟩
  have F : Fr w w1 [(23, #[.int .i32 a, .int .i32 b]), (23, #[.int .i32 c, .int .i32 d])] := F.call hb
  obtain ⟨p0, q0, f0, g0⟩ := F.pair0 23 _ _ rfl
  obtain ⟨p1, q1, f1, g1⟩ := F.pair1 23 _ _ rfl
  refine hK.out _ _ ⟨p0, q0, p1, q1⟩ (fun hHeld => ?_)
  clear hK K
  refine pure_ (i := 9) (N := some 77) (v := ?_) (a' := ?_) (bl 21 1023) rfl rfl (by kernel_rfl) (fun _ _ _ h => h) (Or.inl ⟨by rfl, ?_⟩) ?_ ?_
  rotate_left
  · intro w'
    go_simp
    with_reducible rfl
  rotate_left
  · simp only [Act.put, List.setIfInBounds_toArray, List.set_cons_zero, List.set_cons_succ, i64_w, i32_w]
    rfl
  refine pure_ (i := 10) (N := some 78) (v := ?_) (a' := ?_) (bl 21 2047) rfl rfl (by kernel_rfl) (fun _ _ _ h => h) (Or.inl ⟨by rfl, ?_⟩) ?_ ?_
  rotate_left
  · intro w'
    go_simp
    with_reducible rfl
  rotate_left
  · simp only [Act.put, List.setIfInBounds_toArray, List.set_cons_zero, List.set_cons_succ, i64_w, i32_w]
    rfl
  refine take_ (i := 12) (N := some 80) (v := ?_) (a' := ?_) (bl 21 6143) rfl rfl (by kernel_rfl) (fun _ _ _ h => h) (Or.inl ⟨by rfl, ?_⟩) hHeld ?_ ?_
  rotate_left
  · rintro w' ⟨s0, s1, s2, s3⟩
    go_simp
    with_reducible rfl
  rotate_left
  · simp only [Act.put, List.setIfInBounds_toArray, List.set_cons_zero, List.set_cons_succ, i64_w, i32_w]
    rfl
  refine one_ (i := 11) (N := some 79) (bl 21 8191) rfl rfl (by kernel_rfl) (by decide) (fun K hK => ?_)
  rw [if_pos (by rfl)]
  go_simp
  go_at_call 18
  (with_reducible refine (empty_c _).mono ?_)
  rintro e w1 ⟨rfl, hb⟩
  have F : Fr w w1 [(23, #[.int .i32 a, .int .i32 b]), (23, #[.int .i32 c, .int .i32 d])] := F.call hb
  obtain ⟨p0, q0, f0, g0⟩ := F.pair0 23 _ _ rfl
  obtain ⟨p1, q1, f1, g1⟩ := F.pair1 23 _ _ rfl
  refine hK.out _ _ ⟨p0, q0, p1, q1⟩ (fun hHeld => ?_)
  clear hK K
  refine one_ (i := 13) (N := some 81) (bl 21 16383) rfl rfl (by kernel_rfl) (by decide) (fun K hK => ?_)
  rw [if_pos (by rfl)]
  go_simp
  go_at_call 14
  (with_reducible refine (within_r 1 0 a b _ X4.out _).mono ?_)
  rintro e w1 ⟨rfl, hb⟩
  have F : Fr w w1 [(23, #[.int .i32 a, .int .i32 b]), (23, #[.int .i32 c, .int .i32 d])] := F.call hb
  obtain ⟨p0, q0, f0, g0⟩ := F.pair0 23 _ _ rfl
  obtain ⟨p1, q1, f1, g1⟩ := F.pair1 23 _ _ rfl
  refine hK.out _ _ ⟨p0, q0, p1, q1⟩ (fun hHeld => ?_)
  clear hK K
  refine pure_ (i := 14) (N := some 82) (v := ?_) (a' := ?_) (bl 21 32767) rfl rfl (by kernel_rfl) (fun _ _ _ h => h) (Or.inl ⟨by rfl, ?_⟩) ?_ ?_
  rotate_left
  · intro w'
    go_simp
    with_reducible rfl
  rotate_left
  · simp only [Act.put, List.setIfInBounds_toArray, List.set_cons_zero, List.set_cons_succ, i64_w, i32_w]
    rfl
  refine pure_ (i := 15) (N := some 83) (v := ?_) (a' := ?_) (bl 21 65535) rfl rfl (by kernel_rfl) (fun _ _ _ h => h) (Or.inl ⟨by rfl, ?_⟩) ?_ ?_
  rotate_left
  · intro w'
    go_simp
    with_reducible rfl
  rotate_left
  · simp only [Act.put, List.setIfInBounds_toArray, List.set_cons_zero, List.set_cons_succ, i64_w, i32_w]
    rfl
  refine take_ (i := 16) (N := some 84) (v := ?_) (a' := ?_) (bl 21 131071) rfl rfl (by kernel_rfl) (fun _ _ _ h => h) (Or.inl ⟨by rfl, ?_⟩) hHeld ?_ ?_
  rotate_left
  · rintro w' ⟨s0, s1, s2, s3⟩
    go_simp
    with_reducible rfl
  rotate_left
  · simp only [Act.put, List.setIfInBounds_toArray, List.set_cons_zero, List.set_cons_succ, i64_w, i32_w]
    rfl
  refine one_ (i := 17) (N := some 85) (bl 21 262143) rfl rfl (by kernel_rfl) (by decide) (fun K hK => ?_)
  rw [if_pos (by rfl)]
  go_simp
  go_at_call 25
  (with_reducible refine (full_c _).mono ?_)
  rintro e w1 ⟨rfl, hb⟩
  have F : Fr w w1 [(23, #[.int .i32 a, .int .i32 b]), (23, #[.int .i32 c, .int .i32 d])] := F.call hb
  obtain ⟨p0, q0, f0, g0⟩ := F.pair0 23 _ _ rfl
  obtain ⟨p1, q1, f1, g1⟩ := F.pair1 23 _ _ rfl
  refine hK.out _ _ ⟨p0, q0, p1, q1⟩ (fun hHeld => ?_)
  clear hK K
  refine one_ (i := 18) (N := some 86) (bl 21 524287) rfl rfl (by kernel_rfl) (by decide) (fun K hK => ?_)
  rw [if_pos (by rfl)]
  go_simp
  go_at_call 14
  (with_reducible refine (within_r a b (-2147483648) 2147483647 _ X5.out _).mono ?_)
  rintro e w1 ⟨rfl, hb⟩
  have F : Fr w w1 [(23, #[.int .i32 a, .int .i32 b]), (23, #[.int .i32 c, .int .i32 d])] := F.call hb
  obtain ⟨p0, q0, f0, g0⟩ := F.pair0 23 _ _ rfl
  obtain ⟨p1, q1, f1, g1⟩ := F.pair1 23 _ _ rfl
  refine hK.out _ _ ⟨p0, q0, p1, q1⟩ (fun hHeld => ?_)
  clear hK K
  refine pure_ (i := 19) (N := some 87) (v := ?_) (a' := ?_) (bl 21 1048575) rfl rfl (by kernel_rfl) (fun _ _ _ h => h) (Or.inl ⟨by rfl, ?_⟩) ?_ ?_
  rotate_left
  · intro w'
    go_simp
    with_reducible rfl
  rotate_left
  · simp only [Act.put, List.setIfInBounds_toArray, List.set_cons_zero, List.set_cons_succ, i64_w, i32_w]
    rfl
  refine pure_ (i := 20) (N := some 6) (v := ?_) (a' := ?_) (bl 21 2097151) rfl rfl (by kernel_rfl) (fun _ _ _ h => h) (Or.inl ⟨by rfl, ?_⟩) ?_ ?_
  rotate_left
  · intro w'
    go_simp
    with_reducible rfl
  rotate_left
  · simp only [Act.put, List.setIfInBounds_toArray, List.set_cons_zero, List.set_cons_succ, i64_w, i32_w]
    rfl
  refine done_ (by kernel_rfl) ?_
  go_wp2
  go_ret
  exact ⟨by first | rfl | (simp; done), F.below⟩
  

theorem IntervalSets_calls (a b c d n : Int) (ha : -2147483648 ≤ a) (hb1 : b ≤ 2147483647) (hn : -2147483648 ≤ n) (hn1 : n ≤ 2147483647) (w : World) :
    Calls Try.prog 10 #[.agg #[.int .i32 a, .int .i32 b], .agg #[.int .i32 c, .int .i32 d], .int .i32 n] w fun e w' => e = .returned (.bool true) ∧ Below w.heap.size w w' := by
  by_cases hg : b < a
  · exact sets_gt a b c d n _ rfl hg (by unfold wi; simp only [decide_eq_true_eq]; omega) ha hb1 hn hn1 w
  have hg' : a ≤ b := by omega
  by_cases hu : ct c d a = true
  · by_cases hv : ct c d b = true
    · refine sets_tt a b c d n _ rfl hg' hu hv ?_ ha hb1 hn hn1 w
      unfold ct at hu hv; unfold wi
      simp only [decide_eq_true_eq] at *; omega
    · have hv' : ct c d b = false := by simpa using hv
      refine sets_tf a b c d n _ rfl hg' hu hv' ?_ ha hb1 hn hn1 w
      unfold ct at hu hv; unfold wi
      simp only [decide_eq_true_eq, decide_eq_false_iff_not] at *; omega
  · have hu' : ct c d a = false := by simpa using hu
    refine sets_f a b c d n _ rfl hg' hu' ?_ ha hb1 hn hn1 w
    unfold ct at hu; unfold wi
    simp only [decide_eq_true_eq, decide_eq_false_iff_not] at *; omega

end Go.Proofs.Ytcchelfopbgolaa.Sets
