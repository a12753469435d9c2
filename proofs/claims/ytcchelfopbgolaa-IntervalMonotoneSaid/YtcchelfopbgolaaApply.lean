/- The contract of interval.Apply. Conditions: as each theorem says. -/
import Derived.Test.YtcchelfopbgolaaDecide
import Derived.Test.YtcchelfopbgolaaDivides
namespace Go.Proofs.Ytcchelfopbgolaa.Apply
open Go.RowKit Go.Proofs.Ytcchelfopbgolaa.PIntervalSets Go.Proofs.YtcchelfopbgolaaW.PrintWords Go.Proofs.YtcchelfopbgolaaW.PrintLast Go.Proofs.YtcchelfopbgolaaW.PrintMore
open Go.Proofs.YtcchelfopbgolaaPlain Base Blocks Small Corners Divide Divides Decide
set_option linter.unusedSimpArgs false
set_option linter.unusedVariables false

set_option maxRecDepth 100000 in
set_option maxHeartbeats 4000000 in
theorem apply_out (k a b c d : Int) (h : k < 6 ∨ 23 < k) (w : World) : Calls Try.prog 20 #[.int .u8 k, .agg #[.int .i32 a, .int .i32 b], .agg #[.int .i32 c, .int .i32 d]] w fun e w' => e = .returned (.agg #[.int .i32 (-2147483648), .int .i32 (2147483647)]) ∧ Below w.heap.size w w' := by
  have F := Fr.three w 23 #[.int .i32 a, .int .i32 b] 23 #[.int .i32 c, .int .i32 d] 23 #[.int .i32 0, .int .i32 0]
  rcases h with h | h
  · go_enter Try.func20, Try.ntmps20
    go_wp2_with (first | (go_at_call 25; ((with_reducible refine (full_c _).mono ?_); rintro e w1 ⟨rfl, hb⟩; have F : Fr w w1 [(23, #[.int .i32 a, .int .i32 b]), (23, #[.int .i32 c, .int .i32 d]), (23, #[.int .i32 0, .int .i32 0])] := (by first | exact F.call hb | exact (F.drewN _).call hb | exact F.drew.call hb | exact (F.alloc _).call hb); obtain ⟨p0, q0, f0, g0⟩ := F.pair0 23 _ _ rfl; obtain ⟨p1, q1, f1, g1⟩ := F.pair1 23 _ _ rfl; obtain ⟨p2, q2, f2, g2⟩ := F.pair2 23 _ _ rfl)))
    have F := F.put2 23 _ _ rfl (.int .i32 (-2147483648)) (.int .i32 2147483647)
    exact bodyPost_ret (results_cell_row rfl _ _ (w.heap.size + 1 + 1) 23 #[.int .i32 (-2147483648), .int .i32 2147483647] (0, 0) _ rfl (F.blk2 23 _ rfl) Try.underlying23 rfl (by kernel_rfl)) rfl ⟨rfl, F.below⟩
  · have h' : ¬ k < 6 := by omega
    go_enter Try.func20, Try.ntmps20
    go_wp2_with (first | (go_at_call 25; ((with_reducible refine (full_c _).mono ?_); rintro e w1 ⟨rfl, hb⟩; have F : Fr w w1 [(23, #[.int .i32 a, .int .i32 b]), (23, #[.int .i32 c, .int .i32 d]), (23, #[.int .i32 0, .int .i32 0])] := (by first | exact F.call hb | exact (F.drewN _).call hb | exact F.drew.call hb | exact (F.alloc _).call hb); obtain ⟨p0, q0, f0, g0⟩ := F.pair0 23 _ _ rfl; obtain ⟨p1, q1, f1, g1⟩ := F.pair1 23 _ _ rfl; obtain ⟨p2, q2, f2, g2⟩ := F.pair2 23 _ _ rfl)))
    have F := F.put2 23 _ _ rfl (.int .i32 (-2147483648)) (.int .i32 2147483647)
    exact bodyPost_ret (results_cell_row rfl _ _ (w.heap.size + 1 + 1) 23 #[.int .i32 (-2147483648), .int .i32 2147483647] (0, 0) _ rfl (F.blk2 23 _ rfl) Try.underlying23 rfl (by kernel_rfl)) rfl ⟨rfl, F.below⟩

set_option maxRecDepth 100000 in
set_option maxHeartbeats 4000000 in
theorem apply_empty (k a b c d : Int) (x y : Bool) (h1 : 6 ≤ k) (h2 : k ≤ 23) (ex : decide (a > b) = x) (ey : decide (c > d) = y) (hxy : (x || y) = true) (w : World) : Calls Try.prog 20 #[.int .u8 k, .agg #[.int .i32 a, .int .i32 b], .agg #[.int .i32 c, .int .i32 d]] w fun e w' => e = .returned (.agg #[.int .i32 (1), .int .i32 (0)]) ∧ Below w.heap.size w w' := by
  have EX := Lib.hid ex
  have EY := Lib.hid ey
  clear ex ey
  have F := Fr.three w 23 #[.int .i32 a, .int .i32 b] 23 #[.int .i32 c, .int .i32 d] 23 #[.int .i32 0, .int .i32 0]
  cases x
  · cases y
    · cases hxy
    · clear hxy
      go_enter Try.func20, Try.ntmps20
      go_wp2_with (first | (go_at_call 17; ((with_reducible refine (isEmpty_r a b _ EX.out _).mono ?_); rintro e w1 ⟨rfl, hb⟩; have F : Fr w w1 [(23, #[.int .i32 a, .int .i32 b]), (23, #[.int .i32 c, .int .i32 d]), (23, #[.int .i32 0, .int .i32 0])] := (by first | exact F.call hb | exact (F.drewN _).call hb | exact F.drew.call hb | exact (F.alloc _).call hb); obtain ⟨p0, q0, f0, g0⟩ := F.pair0 23 _ _ rfl; obtain ⟨p1, q1, f1, g1⟩ := F.pair1 23 _ _ rfl; obtain ⟨p2, q2, f2, g2⟩ := F.pair2 23 _ _ rfl)) | (go_at_call 17; ((with_reducible refine (isEmpty_r c d _ EY.out _).mono ?_); rintro e w1 ⟨rfl, hb⟩; have F : Fr w w1 [(23, #[.int .i32 a, .int .i32 b]), (23, #[.int .i32 c, .int .i32 d]), (23, #[.int .i32 0, .int .i32 0])] := (by first | exact F.call hb | exact (F.drewN _).call hb | exact F.drew.call hb | exact (F.alloc _).call hb); obtain ⟨p0, q0, f0, g0⟩ := F.pair0 23 _ _ rfl; obtain ⟨p1, q1, f1, g1⟩ := F.pair1 23 _ _ rfl; obtain ⟨p2, q2, f2, g2⟩ := F.pair2 23 _ _ rfl)) | (go_at_call 18; ((with_reducible refine (empty_c _).mono ?_); rintro e w1 ⟨rfl, hb⟩; have F : Fr w w1 [(23, #[.int .i32 a, .int .i32 b]), (23, #[.int .i32 c, .int .i32 d]), (23, #[.int .i32 0, .int .i32 0])] := (by first | exact F.call hb | exact (F.drewN _).call hb | exact F.drew.call hb | exact (F.alloc _).call hb); obtain ⟨p0, q0, f0, g0⟩ := F.pair0 23 _ _ rfl; obtain ⟨p1, q1, f1, g1⟩ := F.pair1 23 _ _ rfl; obtain ⟨p2, q2, f2, g2⟩ := F.pair2 23 _ _ rfl)))
      have F := F.put2 23 _ _ rfl (.int .i32 1) (.int .i32 0)
      exact bodyPost_ret (results_cell_row rfl _ _ (w.heap.size + 1 + 1) 23 #[.int .i32 1, .int .i32 0] (0, 0) _ rfl (F.blk2 23 _ rfl) Try.underlying23 rfl (by kernel_rfl)) rfl ⟨rfl, F.below⟩
  · clear hxy
    go_enter Try.func20, Try.ntmps20
    go_wp2_with (first | (go_at_call 17; ((with_reducible refine (isEmpty_r a b _ EX.out _).mono ?_); rintro e w1 ⟨rfl, hb⟩; have F : Fr w w1 [(23, #[.int .i32 a, .int .i32 b]), (23, #[.int .i32 c, .int .i32 d]), (23, #[.int .i32 0, .int .i32 0])] := (by first | exact F.call hb | exact (F.drewN _).call hb | exact F.drew.call hb | exact (F.alloc _).call hb); obtain ⟨p0, q0, f0, g0⟩ := F.pair0 23 _ _ rfl; obtain ⟨p1, q1, f1, g1⟩ := F.pair1 23 _ _ rfl; obtain ⟨p2, q2, f2, g2⟩ := F.pair2 23 _ _ rfl)) | (go_at_call 17; ((with_reducible refine (isEmpty_r c d _ EY.out _).mono ?_); rintro e w1 ⟨rfl, hb⟩; have F : Fr w w1 [(23, #[.int .i32 a, .int .i32 b]), (23, #[.int .i32 c, .int .i32 d]), (23, #[.int .i32 0, .int .i32 0])] := (by first | exact F.call hb | exact (F.drewN _).call hb | exact F.drew.call hb | exact (F.alloc _).call hb); obtain ⟨p0, q0, f0, g0⟩ := F.pair0 23 _ _ rfl; obtain ⟨p1, q1, f1, g1⟩ := F.pair1 23 _ _ rfl; obtain ⟨p2, q2, f2, g2⟩ := F.pair2 23 _ _ rfl)) | (go_at_call 18; ((with_reducible refine (empty_c _).mono ?_); rintro e w1 ⟨rfl, hb⟩; have F : Fr w w1 [(23, #[.int .i32 a, .int .i32 b]), (23, #[.int .i32 c, .int .i32 d]), (23, #[.int .i32 0, .int .i32 0])] := (by first | exact F.call hb | exact (F.drewN _).call hb | exact F.drew.call hb | exact (F.alloc _).call hb); obtain ⟨p0, q0, f0, g0⟩ := F.pair0 23 _ _ rfl; obtain ⟨p1, q1, f1, g1⟩ := F.pair1 23 _ _ rfl; obtain ⟨p2, q2, f2, g2⟩ := F.pair2 23 _ _ rfl)))
    have F := F.put2 23 _ _ rfl (.int .i32 1) (.int .i32 0)
    exact bodyPost_ret (results_cell_row rfl _ _ (w.heap.size + 1 + 1) 23 #[.int .i32 1, .int .i32 0] (0, 0) _ rfl (F.blk2 23 _ rfl) Try.underlying23 rfl (by kernel_rfl)) rfl ⟨rfl, F.below⟩

set_option maxRecDepth 100000 in
set_option maxHeartbeats 4000000 in
theorem apply_one_no (k a c r e : Int) (h1 : 6 ≤ k) (h2 : k ≤ 23) (h : ap k a c = (r, e)) (he : (e == 0) = false) (w : World) : Calls Try.prog 20 #[.int .u8 k, .agg #[.int .i32 a, .int .i32 a], .agg #[.int .i32 c, .int .i32 c]] w fun e w' => e = .returned (.agg #[.int .i32 1, .int .i32 0]) ∧ Below w.heap.size w w' := by
  have HA := Lib.hid h
  clear h
  have F := Fr.three w 23 #[.int .i32 a, .int .i32 a] 23 #[.int .i32 c, .int .i32 c] 23 #[.int .i32 0, .int .i32 0]
  have EX : ∀ (n : Int) (w : World), Calls Try.prog 17 #[.agg #[.int .i32 n, .int .i32 n]] w fun e w' => e = .returned (.bool false) ∧ Below w.heap.size w w' := fun n w => isEmpty_r n n false (decide_eq_false (by omega)) w
  have EY := Lib.hid EX
  clear EX
  go_enter Try.func20, Try.ntmps20
  go_wp2_with (first | (go_at_call 17; ((with_reducible refine (EY.out _ _).mono ?_); rintro e w1 ⟨rfl, hb⟩; have F : Fr w w1 [(23, #[.int .i32 a, .int .i32 a]), (23, #[.int .i32 c, .int .i32 c]), (23, #[.int .i32 0, .int .i32 0])] := (by first | exact F.call hb | exact (F.drewN _).call hb | exact F.drew.call hb | exact (F.alloc _).call hb); obtain ⟨p0, q0, f0, g0⟩ := F.pair0 23 _ _ rfl; obtain ⟨p1, q1, f1, g1⟩ := F.pair1 23 _ _ rfl; obtain ⟨p2, q2, f2, g2⟩ := F.pair2 23 _ _ rfl)) | (go_at_call 24; ((with_reducible refine (wordApply_c k a c r e _ HA.out).mono ?_); rintro e w1 ⟨rfl, ⟨nd, rfl⟩⟩; have F := F.drewN nd)) | (go_at_call 18; ((with_reducible refine (empty_c _).mono ?_); rintro e w1 ⟨rfl, hb⟩; have F : Fr w w1 [(23, #[.int .i32 a, .int .i32 a]), (23, #[.int .i32 c, .int .i32 c]), (23, #[.int .i32 0, .int .i32 0])] := (by first | exact F.call hb | exact (F.drewN _).call hb | exact F.drew.call hb | exact (F.alloc _).call hb); obtain ⟨p0, q0, f0, g0⟩ := F.pair0 23 _ _ rfl; obtain ⟨p1, q1, f1, g1⟩ := F.pair1 23 _ _ rfl; obtain ⟨p2, q2, f2, g2⟩ := F.pair2 23 _ _ rfl)))
  have F := F.put2 23 _ _ rfl (.int .i32 1) (.int .i32 0)
  exact bodyPost_ret (results_cell_row rfl _ _ (w.heap.size + 1 + 1) 23 #[.int .i32 1, .int .i32 0] (0, 0) _ rfl (F.blk2 23 _ rfl) Try.underlying23 rfl (by kernel_rfl)) rfl ⟨rfl, F.below⟩

set_option maxRecDepth 100000 in
set_option maxHeartbeats 4000000 in
theorem apply_one_yes (k a c r e : Int) (h1 : 6 ≤ k) (h2 : k ≤ 23) (h : ap k a c = (r, e)) (he : (e == 0) = true) (w : World) : Calls Try.prog 20 #[.int .u8 k, .agg #[.int .i32 a, .int .i32 a], .agg #[.int .i32 c, .int .i32 c]] w fun e w' => e = .returned (.agg #[.int .i32 r, .int .i32 r]) ∧ Below w.heap.size w w' := by
  have HA := Lib.hid h
  clear h
  have F := Fr.three w 23 #[.int .i32 a, .int .i32 a] 23 #[.int .i32 c, .int .i32 c] 23 #[.int .i32 0, .int .i32 0]
  have EX : ∀ (n : Int) (w : World), Calls Try.prog 17 #[.agg #[.int .i32 n, .int .i32 n]] w fun e w' => e = .returned (.bool false) ∧ Below w.heap.size w w' := fun n w => isEmpty_r n n false (decide_eq_false (by omega)) w
  have EY := Lib.hid EX
  clear EX
  go_enter Try.func20, Try.ntmps20
  go_wp2_with (first | (go_at_call 17; ((with_reducible refine (EY.out _ _).mono ?_); rintro e w1 ⟨rfl, hb⟩; have F : Fr w w1 [(23, #[.int .i32 a, .int .i32 a]), (23, #[.int .i32 c, .int .i32 c]), (23, #[.int .i32 0, .int .i32 0])] := (by first | exact F.call hb | exact (F.drewN _).call hb | exact F.drew.call hb | exact (F.alloc _).call hb); obtain ⟨p0, q0, f0, g0⟩ := F.pair0 23 _ _ rfl; obtain ⟨p1, q1, f1, g1⟩ := F.pair1 23 _ _ rfl; obtain ⟨p2, q2, f2, g2⟩ := F.pair2 23 _ _ rfl)) | (go_at_call 24; ((with_reducible refine (wordApply_c k a c r e _ HA.out).mono ?_); rintro e w1 ⟨rfl, ⟨nd, rfl⟩⟩; have F := F.drewN nd)) | (go_at_call 27; ((with_reducible refine (of_c _ _).mono ?_); rintro e w1 ⟨rfl, hb⟩; have F : Fr w w1 [(23, #[.int .i32 a, .int .i32 a]), (23, #[.int .i32 c, .int .i32 c]), (23, #[.int .i32 0, .int .i32 0])] := (by first | exact F.call hb | exact (F.drewN _).call hb | exact F.drew.call hb | exact (F.alloc _).call hb); obtain ⟨p0, q0, f0, g0⟩ := F.pair0 23 _ _ rfl; obtain ⟨p1, q1, f1, g1⟩ := F.pair1 23 _ _ rfl; obtain ⟨p2, q2, f2, g2⟩ := F.pair2 23 _ _ rfl)))
  have F := F.put2 23 _ _ rfl (.int .i32 r) (.int .i32 r)
  exact bodyPost_ret (results_cell_row rfl _ _ (w.heap.size + 1 + 1) 23 #[.int .i32 r, .int .i32 r] (0, 0) _ rfl (F.blk2 23 _ rfl) Try.underlying23 rfl (by kernel_rfl)) rfl ⟨rfl, F.below⟩

set_option maxRecDepth 100000 in
set_option maxHeartbeats 4000000 in
theorem apply_6 (a b c d : Int) (ha : -2147483648 ≤ a) (ha1 : a ≤ 2147483647) (hb : -2147483648 ≤ b) (hb1 : b ≤ 2147483647) (hc : -2147483648 ≤ c) (hc1 : c ≤ 2147483647) (hd : -2147483648 ≤ d) (hd1 : d ≤ 2147483647) (hab : a ≤ b) (hcd : c ≤ d) (hs : ¬ (a = b ∧ c = d)) (w : World) : Calls Try.prog 20 #[.int .u8 6, .agg #[.int .i32 a, .int .i32 b], .agg #[.int .i32 c, .int .i32 d]] w fun e w' => e = .returned (.agg #[.int .i32 (cor (fun x y => x + y) a b c d).1, .int .i32 (cor (fun x y => x + y) a b c d).2]) ∧ Below w.heap.size w w' := by
  have EX := Lib.hid (show decide (a > b) = false from decide_eq_false (by omega))
  have EY := Lib.hid (show decide (c > d) = false from decide_eq_false (by omega))
  have HK : Hid (∀ w, Calls Try.prog 29 #[.agg #[.int .i32 a, .int .i32 b], .agg #[.int .i32 c, .int .i32 d], .func (Fn.func 30) #[] #[]] w fun e w' => e = .returned (.agg #[.int .i32 (cor (fun x y => x + y) a b c d).1, .int .i32 (cor (fun x y => x + y) a b c d).2]) ∧ Below w.heap.size w w') := Lib.hid (fun w => add_c a b c d ha ha1 hb hb1 hc hc1 hd hd1 w)
  have hs' : (a == b) = false ∨ ((a == b) = true ∧ (c == d) = false) := by
    by_cases h : a = b
    · right; exact ⟨beq_iff_eq.mpr h, beq_eq_false_iff_ne.mpr (fun h2 => hs ⟨h, h2⟩)⟩
    · left; exact beq_eq_false_iff_ne.mpr h
  clear hs hab hcd ha ha1 hb hb1 hc hc1 hd hd1
  have F := Fr.three w 23 #[.int .i32 a, .int .i32 b] 23 #[.int .i32 c, .int .i32 d] 23 #[.int .i32 0, .int .i32 0]
  rcases hs' with hs | ⟨hs, hs2⟩
  · go_enter Try.func20, Try.ntmps20
    go_wp2_with (first | (go_at_call 17; ((with_reducible refine (isEmpty_r a b _ EX.out _).mono ?_); rintro e w1 ⟨rfl, hb⟩; have F : Fr w w1 [(23, #[.int .i32 a, .int .i32 b]), (23, #[.int .i32 c, .int .i32 d]), (23, #[.int .i32 0, .int .i32 0])] := (by first | exact F.call hb | exact (F.drewN _).call hb | exact F.drew.call hb | exact (F.alloc _).call hb); obtain ⟨p0, q0, f0, g0⟩ := F.pair0 23 _ _ rfl; obtain ⟨p1, q1, f1, g1⟩ := F.pair1 23 _ _ rfl; obtain ⟨p2, q2, f2, g2⟩ := F.pair2 23 _ _ rfl)) | (go_at_call 17; ((with_reducible refine (isEmpty_r c d _ EY.out _).mono ?_); rintro e w1 ⟨rfl, hb⟩; have F : Fr w w1 [(23, #[.int .i32 a, .int .i32 b]), (23, #[.int .i32 c, .int .i32 d]), (23, #[.int .i32 0, .int .i32 0])] := (by first | exact F.call hb | exact (F.drewN _).call hb | exact F.drew.call hb | exact (F.alloc _).call hb); obtain ⟨p0, q0, f0, g0⟩ := F.pair0 23 _ _ rfl; obtain ⟨p1, q1, f1, g1⟩ := F.pair1 23 _ _ rfl; obtain ⟨p2, q2, f2, g2⟩ := F.pair2 23 _ _ rfl)) | (go_at_call 29; ((with_reducible refine (HK.out _).mono ?_); rintro e w1 ⟨rfl, hb⟩; have F : Fr w w1 [(23, #[.int .i32 a, .int .i32 b]), (23, #[.int .i32 c, .int .i32 d]), (23, #[.int .i32 0, .int .i32 0])] := (by first | exact F.call hb | exact (F.drewN _).call hb | exact F.drew.call hb | exact (F.alloc _).call hb); obtain ⟨p0, q0, f0, g0⟩ := F.pair0 23 _ _ rfl; obtain ⟨p1, q1, f1, g1⟩ := F.pair1 23 _ _ rfl; obtain ⟨p2, q2, f2, g2⟩ := F.pair2 23 _ _ rfl)))
    have F := F.put2 23 _ _ rfl (.int .i32 ((cor (fun x y => x + y) a b c d).1)) (.int .i32 ((cor (fun x y => x + y) a b c d).2))
    exact bodyPost_ret (results_cell_row rfl _ _ (w.heap.size + 1 + 1) 23 #[.int .i32 ((cor (fun x y => x + y) a b c d).1), .int .i32 ((cor (fun x y => x + y) a b c d).2)] (0, 0) _ rfl (F.blk2 23 _ rfl) Try.underlying23 rfl (by kernel_rfl)) rfl ⟨rfl, F.below⟩
  · go_enter Try.func20, Try.ntmps20
    go_wp2_with (first | (go_at_call 17; ((with_reducible refine (isEmpty_r a b _ EX.out _).mono ?_); rintro e w1 ⟨rfl, hb⟩; have F : Fr w w1 [(23, #[.int .i32 a, .int .i32 b]), (23, #[.int .i32 c, .int .i32 d]), (23, #[.int .i32 0, .int .i32 0])] := (by first | exact F.call hb | exact (F.drewN _).call hb | exact F.drew.call hb | exact (F.alloc _).call hb); obtain ⟨p0, q0, f0, g0⟩ := F.pair0 23 _ _ rfl; obtain ⟨p1, q1, f1, g1⟩ := F.pair1 23 _ _ rfl; obtain ⟨p2, q2, f2, g2⟩ := F.pair2 23 _ _ rfl)) | (go_at_call 17; ((with_reducible refine (isEmpty_r c d _ EY.out _).mono ?_); rintro e w1 ⟨rfl, hb⟩; have F : Fr w w1 [(23, #[.int .i32 a, .int .i32 b]), (23, #[.int .i32 c, .int .i32 d]), (23, #[.int .i32 0, .int .i32 0])] := (by first | exact F.call hb | exact (F.drewN _).call hb | exact F.drew.call hb | exact (F.alloc _).call hb); obtain ⟨p0, q0, f0, g0⟩ := F.pair0 23 _ _ rfl; obtain ⟨p1, q1, f1, g1⟩ := F.pair1 23 _ _ rfl; obtain ⟨p2, q2, f2, g2⟩ := F.pair2 23 _ _ rfl)) | (go_at_call 29; ((with_reducible refine (HK.out _).mono ?_); rintro e w1 ⟨rfl, hb⟩; have F : Fr w w1 [(23, #[.int .i32 a, .int .i32 b]), (23, #[.int .i32 c, .int .i32 d]), (23, #[.int .i32 0, .int .i32 0])] := (by first | exact F.call hb | exact (F.drewN _).call hb | exact F.drew.call hb | exact (F.alloc _).call hb); obtain ⟨p0, q0, f0, g0⟩ := F.pair0 23 _ _ rfl; obtain ⟨p1, q1, f1, g1⟩ := F.pair1 23 _ _ rfl; obtain ⟨p2, q2, f2, g2⟩ := F.pair2 23 _ _ rfl)))
    have F := F.put2 23 _ _ rfl (.int .i32 ((cor (fun x y => x + y) a b c d).1)) (.int .i32 ((cor (fun x y => x + y) a b c d).2))
    exact bodyPost_ret (results_cell_row rfl _ _ (w.heap.size + 1 + 1) 23 #[.int .i32 ((cor (fun x y => x + y) a b c d).1), .int .i32 ((cor (fun x y => x + y) a b c d).2)] (0, 0) _ rfl (F.blk2 23 _ rfl) Try.underlying23 rfl (by kernel_rfl)) rfl ⟨rfl, F.below⟩

set_option maxRecDepth 100000 in
set_option maxHeartbeats 4000000 in
theorem apply_7 (a b c d : Int) (ha : -2147483648 ≤ a) (ha1 : a ≤ 2147483647) (hb : -2147483648 ≤ b) (hb1 : b ≤ 2147483647) (hc : -2147483648 ≤ c) (hc1 : c ≤ 2147483647) (hd : -2147483648 ≤ d) (hd1 : d ≤ 2147483647) (hab : a ≤ b) (hcd : c ≤ d) (hs : ¬ (a = b ∧ c = d)) (w : World) : Calls Try.prog 20 #[.int .u8 7, .agg #[.int .i32 a, .int .i32 b], .agg #[.int .i32 c, .int .i32 d]] w fun e w' => e = .returned (.agg #[.int .i32 (cor (fun x y => x - y) a b c d).1, .int .i32 (cor (fun x y => x - y) a b c d).2]) ∧ Below w.heap.size w w' := by
  have EX := Lib.hid (show decide (a > b) = false from decide_eq_false (by omega))
  have EY := Lib.hid (show decide (c > d) = false from decide_eq_false (by omega))
  have HK : Hid (∀ w, Calls Try.prog 29 #[.agg #[.int .i32 a, .int .i32 b], .agg #[.int .i32 c, .int .i32 d], .func (Fn.func 31) #[] #[]] w fun e w' => e = .returned (.agg #[.int .i32 (cor (fun x y => x - y) a b c d).1, .int .i32 (cor (fun x y => x - y) a b c d).2]) ∧ Below w.heap.size w w') := Lib.hid (fun w => sub_c a b c d ha ha1 hb hb1 hc hc1 hd hd1 w)
  have hs' : (a == b) = false ∨ ((a == b) = true ∧ (c == d) = false) := by
    by_cases h : a = b
    · right; exact ⟨beq_iff_eq.mpr h, beq_eq_false_iff_ne.mpr (fun h2 => hs ⟨h, h2⟩)⟩
    · left; exact beq_eq_false_iff_ne.mpr h
  clear hs hab hcd ha ha1 hb hb1 hc hc1 hd hd1
  have F := Fr.three w 23 #[.int .i32 a, .int .i32 b] 23 #[.int .i32 c, .int .i32 d] 23 #[.int .i32 0, .int .i32 0]
  rcases hs' with hs | ⟨hs, hs2⟩
  · go_enter Try.func20, Try.ntmps20
    go_wp2_with (first | (go_at_call 17; ((with_reducible refine (isEmpty_r a b _ EX.out _).mono ?_); rintro e w1 ⟨rfl, hb⟩; have F : Fr w w1 [(23, #[.int .i32 a, .int .i32 b]), (23, #[.int .i32 c, .int .i32 d]), (23, #[.int .i32 0, .int .i32 0])] := (by first | exact F.call hb | exact (F.drewN _).call hb | exact F.drew.call hb | exact (F.alloc _).call hb); obtain ⟨p0, q0, f0, g0⟩ := F.pair0 23 _ _ rfl; obtain ⟨p1, q1, f1, g1⟩ := F.pair1 23 _ _ rfl; obtain ⟨p2, q2, f2, g2⟩ := F.pair2 23 _ _ rfl)) | (go_at_call 17; ((with_reducible refine (isEmpty_r c d _ EY.out _).mono ?_); rintro e w1 ⟨rfl, hb⟩; have F : Fr w w1 [(23, #[.int .i32 a, .int .i32 b]), (23, #[.int .i32 c, .int .i32 d]), (23, #[.int .i32 0, .int .i32 0])] := (by first | exact F.call hb | exact (F.drewN _).call hb | exact F.drew.call hb | exact (F.alloc _).call hb); obtain ⟨p0, q0, f0, g0⟩ := F.pair0 23 _ _ rfl; obtain ⟨p1, q1, f1, g1⟩ := F.pair1 23 _ _ rfl; obtain ⟨p2, q2, f2, g2⟩ := F.pair2 23 _ _ rfl)) | (go_at_call 29; ((with_reducible refine (HK.out _).mono ?_); rintro e w1 ⟨rfl, hb⟩; have F : Fr w w1 [(23, #[.int .i32 a, .int .i32 b]), (23, #[.int .i32 c, .int .i32 d]), (23, #[.int .i32 0, .int .i32 0])] := (by first | exact F.call hb | exact (F.drewN _).call hb | exact F.drew.call hb | exact (F.alloc _).call hb); obtain ⟨p0, q0, f0, g0⟩ := F.pair0 23 _ _ rfl; obtain ⟨p1, q1, f1, g1⟩ := F.pair1 23 _ _ rfl; obtain ⟨p2, q2, f2, g2⟩ := F.pair2 23 _ _ rfl)))
    have F := F.put2 23 _ _ rfl (.int .i32 ((cor (fun x y => x - y) a b c d).1)) (.int .i32 ((cor (fun x y => x - y) a b c d).2))
    exact bodyPost_ret (results_cell_row rfl _ _ (w.heap.size + 1 + 1) 23 #[.int .i32 ((cor (fun x y => x - y) a b c d).1), .int .i32 ((cor (fun x y => x - y) a b c d).2)] (0, 0) _ rfl (F.blk2 23 _ rfl) Try.underlying23 rfl (by kernel_rfl)) rfl ⟨rfl, F.below⟩
  · go_enter Try.func20, Try.ntmps20
    go_wp2_with (first | (go_at_call 17; ((with_reducible refine (isEmpty_r a b _ EX.out _).mono ?_); rintro e w1 ⟨rfl, hb⟩; have F : Fr w w1 [(23, #[.int .i32 a, .int .i32 b]), (23, #[.int .i32 c, .int .i32 d]), (23, #[.int .i32 0, .int .i32 0])] := (by first | exact F.call hb | exact (F.drewN _).call hb | exact F.drew.call hb | exact (F.alloc _).call hb); obtain ⟨p0, q0, f0, g0⟩ := F.pair0 23 _ _ rfl; obtain ⟨p1, q1, f1, g1⟩ := F.pair1 23 _ _ rfl; obtain ⟨p2, q2, f2, g2⟩ := F.pair2 23 _ _ rfl)) | (go_at_call 17; ((with_reducible refine (isEmpty_r c d _ EY.out _).mono ?_); rintro e w1 ⟨rfl, hb⟩; have F : Fr w w1 [(23, #[.int .i32 a, .int .i32 b]), (23, #[.int .i32 c, .int .i32 d]), (23, #[.int .i32 0, .int .i32 0])] := (by first | exact F.call hb | exact (F.drewN _).call hb | exact F.drew.call hb | exact (F.alloc _).call hb); obtain ⟨p0, q0, f0, g0⟩ := F.pair0 23 _ _ rfl; obtain ⟨p1, q1, f1, g1⟩ := F.pair1 23 _ _ rfl; obtain ⟨p2, q2, f2, g2⟩ := F.pair2 23 _ _ rfl)) | (go_at_call 29; ((with_reducible refine (HK.out _).mono ?_); rintro e w1 ⟨rfl, hb⟩; have F : Fr w w1 [(23, #[.int .i32 a, .int .i32 b]), (23, #[.int .i32 c, .int .i32 d]), (23, #[.int .i32 0, .int .i32 0])] := (by first | exact F.call hb | exact (F.drewN _).call hb | exact F.drew.call hb | exact (F.alloc _).call hb); obtain ⟨p0, q0, f0, g0⟩ := F.pair0 23 _ _ rfl; obtain ⟨p1, q1, f1, g1⟩ := F.pair1 23 _ _ rfl; obtain ⟨p2, q2, f2, g2⟩ := F.pair2 23 _ _ rfl)))
    have F := F.put2 23 _ _ rfl (.int .i32 ((cor (fun x y => x - y) a b c d).1)) (.int .i32 ((cor (fun x y => x - y) a b c d).2))
    exact bodyPost_ret (results_cell_row rfl _ _ (w.heap.size + 1 + 1) 23 #[.int .i32 ((cor (fun x y => x - y) a b c d).1), .int .i32 ((cor (fun x y => x - y) a b c d).2)] (0, 0) _ rfl (F.blk2 23 _ rfl) Try.underlying23 rfl (by kernel_rfl)) rfl ⟨rfl, F.below⟩

set_option maxRecDepth 100000 in
set_option maxHeartbeats 4000000 in
theorem apply_8 (a b c d : Int) (ha : -2147483648 ≤ a) (ha1 : a ≤ 2147483647) (hb : -2147483648 ≤ b) (hb1 : b ≤ 2147483647) (hc : -2147483648 ≤ c) (hc1 : c ≤ 2147483647) (hd : -2147483648 ≤ d) (hd1 : d ≤ 2147483647) (hab : a ≤ b) (hcd : c ≤ d) (hs : ¬ (a = b ∧ c = d)) (w : World) : Calls Try.prog 20 #[.int .u8 8, .agg #[.int .i32 a, .int .i32 b], .agg #[.int .i32 c, .int .i32 d]] w fun e w' => e = .returned (.agg #[.int .i32 (cor (fun x y => x * y) a b c d).1, .int .i32 (cor (fun x y => x * y) a b c d).2]) ∧ Below w.heap.size w w' := by
  have EX := Lib.hid (show decide (a > b) = false from decide_eq_false (by omega))
  have EY := Lib.hid (show decide (c > d) = false from decide_eq_false (by omega))
  have HK : Hid (∀ w, Calls Try.prog 29 #[.agg #[.int .i32 a, .int .i32 b], .agg #[.int .i32 c, .int .i32 d], .func (Fn.func 32) #[] #[]] w fun e w' => e = .returned (.agg #[.int .i32 (cor (fun x y => x * y) a b c d).1, .int .i32 (cor (fun x y => x * y) a b c d).2]) ∧ Below w.heap.size w w') := Lib.hid (fun w => mul_c a b c d ha ha1 hb hb1 hc hc1 hd hd1 w)
  have hs' : (a == b) = false ∨ ((a == b) = true ∧ (c == d) = false) := by
    by_cases h : a = b
    · right; exact ⟨beq_iff_eq.mpr h, beq_eq_false_iff_ne.mpr (fun h2 => hs ⟨h, h2⟩)⟩
    · left; exact beq_eq_false_iff_ne.mpr h
  clear hs hab hcd ha ha1 hb hb1 hc hc1 hd hd1
  have F := Fr.three w 23 #[.int .i32 a, .int .i32 b] 23 #[.int .i32 c, .int .i32 d] 23 #[.int .i32 0, .int .i32 0]
  rcases hs' with hs | ⟨hs, hs2⟩
  · go_enter Try.func20, Try.ntmps20
    go_wp2_with (first | (go_at_call 17; ((with_reducible refine (isEmpty_r a b _ EX.out _).mono ?_); rintro e w1 ⟨rfl, hb⟩; have F : Fr w w1 [(23, #[.int .i32 a, .int .i32 b]), (23, #[.int .i32 c, .int .i32 d]), (23, #[.int .i32 0, .int .i32 0])] := (by first | exact F.call hb | exact (F.drewN _).call hb | exact F.drew.call hb | exact (F.alloc _).call hb); obtain ⟨p0, q0, f0, g0⟩ := F.pair0 23 _ _ rfl; obtain ⟨p1, q1, f1, g1⟩ := F.pair1 23 _ _ rfl; obtain ⟨p2, q2, f2, g2⟩ := F.pair2 23 _ _ rfl)) | (go_at_call 17; ((with_reducible refine (isEmpty_r c d _ EY.out _).mono ?_); rintro e w1 ⟨rfl, hb⟩; have F : Fr w w1 [(23, #[.int .i32 a, .int .i32 b]), (23, #[.int .i32 c, .int .i32 d]), (23, #[.int .i32 0, .int .i32 0])] := (by first | exact F.call hb | exact (F.drewN _).call hb | exact F.drew.call hb | exact (F.alloc _).call hb); obtain ⟨p0, q0, f0, g0⟩ := F.pair0 23 _ _ rfl; obtain ⟨p1, q1, f1, g1⟩ := F.pair1 23 _ _ rfl; obtain ⟨p2, q2, f2, g2⟩ := F.pair2 23 _ _ rfl)) | (go_at_call 29; ((with_reducible refine (HK.out _).mono ?_); rintro e w1 ⟨rfl, hb⟩; have F : Fr w w1 [(23, #[.int .i32 a, .int .i32 b]), (23, #[.int .i32 c, .int .i32 d]), (23, #[.int .i32 0, .int .i32 0])] := (by first | exact F.call hb | exact (F.drewN _).call hb | exact F.drew.call hb | exact (F.alloc _).call hb); obtain ⟨p0, q0, f0, g0⟩ := F.pair0 23 _ _ rfl; obtain ⟨p1, q1, f1, g1⟩ := F.pair1 23 _ _ rfl; obtain ⟨p2, q2, f2, g2⟩ := F.pair2 23 _ _ rfl)))
    have F := F.put2 23 _ _ rfl (.int .i32 ((cor (fun x y => x * y) a b c d).1)) (.int .i32 ((cor (fun x y => x * y) a b c d).2))
    exact bodyPost_ret (results_cell_row rfl _ _ (w.heap.size + 1 + 1) 23 #[.int .i32 ((cor (fun x y => x * y) a b c d).1), .int .i32 ((cor (fun x y => x * y) a b c d).2)] (0, 0) _ rfl (F.blk2 23 _ rfl) Try.underlying23 rfl (by kernel_rfl)) rfl ⟨rfl, F.below⟩
  · go_enter Try.func20, Try.ntmps20
    go_wp2_with (first | (go_at_call 17; ((with_reducible refine (isEmpty_r a b _ EX.out _).mono ?_); rintro e w1 ⟨rfl, hb⟩; have F : Fr w w1 [(23, #[.int .i32 a, .int .i32 b]), (23, #[.int .i32 c, .int .i32 d]), (23, #[.int .i32 0, .int .i32 0])] := (by first | exact F.call hb | exact (F.drewN _).call hb | exact F.drew.call hb | exact (F.alloc _).call hb); obtain ⟨p0, q0, f0, g0⟩ := F.pair0 23 _ _ rfl; obtain ⟨p1, q1, f1, g1⟩ := F.pair1 23 _ _ rfl; obtain ⟨p2, q2, f2, g2⟩ := F.pair2 23 _ _ rfl)) | (go_at_call 17; ((with_reducible refine (isEmpty_r c d _ EY.out _).mono ?_); rintro e w1 ⟨rfl, hb⟩; have F : Fr w w1 [(23, #[.int .i32 a, .int .i32 b]), (23, #[.int .i32 c, .int .i32 d]), (23, #[.int .i32 0, .int .i32 0])] := (by first | exact F.call hb | exact (F.drewN _).call hb | exact F.drew.call hb | exact (F.alloc _).call hb); obtain ⟨p0, q0, f0, g0⟩ := F.pair0 23 _ _ rfl; obtain ⟨p1, q1, f1, g1⟩ := F.pair1 23 _ _ rfl; obtain ⟨p2, q2, f2, g2⟩ := F.pair2 23 _ _ rfl)) | (go_at_call 29; ((with_reducible refine (HK.out _).mono ?_); rintro e w1 ⟨rfl, hb⟩; have F : Fr w w1 [(23, #[.int .i32 a, .int .i32 b]), (23, #[.int .i32 c, .int .i32 d]), (23, #[.int .i32 0, .int .i32 0])] := (by first | exact F.call hb | exact (F.drewN _).call hb | exact F.drew.call hb | exact (F.alloc _).call hb); obtain ⟨p0, q0, f0, g0⟩ := F.pair0 23 _ _ rfl; obtain ⟨p1, q1, f1, g1⟩ := F.pair1 23 _ _ rfl; obtain ⟨p2, q2, f2, g2⟩ := F.pair2 23 _ _ rfl)))
    have F := F.put2 23 _ _ rfl (.int .i32 ((cor (fun x y => x * y) a b c d).1)) (.int .i32 ((cor (fun x y => x * y) a b c d).2))
    exact bodyPost_ret (results_cell_row rfl _ _ (w.heap.size + 1 + 1) 23 #[.int .i32 ((cor (fun x y => x * y) a b c d).1), .int .i32 ((cor (fun x y => x * y) a b c d).2)] (0, 0) _ rfl (F.blk2 23 _ rfl) Try.underlying23 rfl (by kernel_rfl)) rfl ⟨rfl, F.below⟩

set_option maxRecDepth 100000 in
set_option maxHeartbeats 4000000 in
theorem apply_9 (a b c d : Int) (ha : -2147483648 ≤ a) (ha1 : a ≤ 2147483647) (hb : -2147483648 ≤ b) (hb1 : b ≤ 2147483647) (hc : -2147483648 ≤ c) (hc1 : c ≤ 2147483647) (hd : -2147483648 ≤ d) (hd1 : d ≤ 2147483647) (hab : a ≤ b) (hcd : c ≤ d) (hs : ¬ (a = b ∧ c = d)) (w : World) : Calls Try.prog 20 #[.int .u8 9, .agg #[.int .i32 a, .int .i32 b], .agg #[.int .i32 c, .int .i32 d]] w fun e w' => e = .returned (.agg #[.int .i32 (dv a b c d).1, .int .i32 (dv a b c d).2]) ∧ Below w.heap.size w w' := by
  have EX := Lib.hid (show decide (a > b) = false from decide_eq_false (by omega))
  have EY := Lib.hid (show decide (c > d) = false from decide_eq_false (by omega))
  have HK : Hid (∀ w, Calls Try.prog 33 #[.agg #[.int .i32 a, .int .i32 b], .agg #[.int .i32 c, .int .i32 d]] w fun e w' => e = .returned (.agg #[.int .i32 (dv a b c d).1, .int .i32 (dv a b c d).2]) ∧ Below w.heap.size w w') := Lib.hid (fun w => div_c a b c d ha ha1 hb hb1 hc hc1 hd hd1 hcd w)
  have hs' : (a == b) = false ∨ ((a == b) = true ∧ (c == d) = false) := by
    by_cases h : a = b
    · right; exact ⟨beq_iff_eq.mpr h, beq_eq_false_iff_ne.mpr (fun h2 => hs ⟨h, h2⟩)⟩
    · left; exact beq_eq_false_iff_ne.mpr h
  clear hs hab hcd ha ha1 hb hb1 hc hc1 hd hd1
  have F := Fr.three w 23 #[.int .i32 a, .int .i32 b] 23 #[.int .i32 c, .int .i32 d] 23 #[.int .i32 0, .int .i32 0]
  rcases hs' with hs | ⟨hs, hs2⟩
  · go_enter Try.func20, Try.ntmps20
    go_wp2_with (first | (go_at_call 17; ((with_reducible refine (isEmpty_r a b _ EX.out _).mono ?_); rintro e w1 ⟨rfl, hb⟩; have F : Fr w w1 [(23, #[.int .i32 a, .int .i32 b]), (23, #[.int .i32 c, .int .i32 d]), (23, #[.int .i32 0, .int .i32 0])] := (by first | exact F.call hb | exact (F.drewN _).call hb | exact F.drew.call hb | exact (F.alloc _).call hb); obtain ⟨p0, q0, f0, g0⟩ := F.pair0 23 _ _ rfl; obtain ⟨p1, q1, f1, g1⟩ := F.pair1 23 _ _ rfl; obtain ⟨p2, q2, f2, g2⟩ := F.pair2 23 _ _ rfl)) | (go_at_call 17; ((with_reducible refine (isEmpty_r c d _ EY.out _).mono ?_); rintro e w1 ⟨rfl, hb⟩; have F : Fr w w1 [(23, #[.int .i32 a, .int .i32 b]), (23, #[.int .i32 c, .int .i32 d]), (23, #[.int .i32 0, .int .i32 0])] := (by first | exact F.call hb | exact (F.drewN _).call hb | exact F.drew.call hb | exact (F.alloc _).call hb); obtain ⟨p0, q0, f0, g0⟩ := F.pair0 23 _ _ rfl; obtain ⟨p1, q1, f1, g1⟩ := F.pair1 23 _ _ rfl; obtain ⟨p2, q2, f2, g2⟩ := F.pair2 23 _ _ rfl)) | (go_at_call 33; ((with_reducible refine (HK.out _).mono ?_); rintro e w1 ⟨rfl, hb⟩; have F : Fr w w1 [(23, #[.int .i32 a, .int .i32 b]), (23, #[.int .i32 c, .int .i32 d]), (23, #[.int .i32 0, .int .i32 0])] := (by first | exact F.call hb | exact (F.drewN _).call hb | exact F.drew.call hb | exact (F.alloc _).call hb); obtain ⟨p0, q0, f0, g0⟩ := F.pair0 23 _ _ rfl; obtain ⟨p1, q1, f1, g1⟩ := F.pair1 23 _ _ rfl; obtain ⟨p2, q2, f2, g2⟩ := F.pair2 23 _ _ rfl)))
    have F := F.put2 23 _ _ rfl (.int .i32 ((dv a b c d).1)) (.int .i32 ((dv a b c d).2))
    exact bodyPost_ret (results_cell_row rfl _ _ (w.heap.size + 1 + 1) 23 #[.int .i32 ((dv a b c d).1), .int .i32 ((dv a b c d).2)] (0, 0) _ rfl (F.blk2 23 _ rfl) Try.underlying23 rfl (by kernel_rfl)) rfl ⟨rfl, F.below⟩
  · go_enter Try.func20, Try.ntmps20
    go_wp2_with (first | (go_at_call 17; ((with_reducible refine (isEmpty_r a b _ EX.out _).mono ?_); rintro e w1 ⟨rfl, hb⟩; have F : Fr w w1 [(23, #[.int .i32 a, .int .i32 b]), (23, #[.int .i32 c, .int .i32 d]), (23, #[.int .i32 0, .int .i32 0])] := (by first | exact F.call hb | exact (F.drewN _).call hb | exact F.drew.call hb | exact (F.alloc _).call hb); obtain ⟨p0, q0, f0, g0⟩ := F.pair0 23 _ _ rfl; obtain ⟨p1, q1, f1, g1⟩ := F.pair1 23 _ _ rfl; obtain ⟨p2, q2, f2, g2⟩ := F.pair2 23 _ _ rfl)) | (go_at_call 17; ((with_reducible refine (isEmpty_r c d _ EY.out _).mono ?_); rintro e w1 ⟨rfl, hb⟩; have F : Fr w w1 [(23, #[.int .i32 a, .int .i32 b]), (23, #[.int .i32 c, .int .i32 d]), (23, #[.int .i32 0, .int .i32 0])] := (by first | exact F.call hb | exact (F.drewN _).call hb | exact F.drew.call hb | exact (F.alloc _).call hb); obtain ⟨p0, q0, f0, g0⟩ := F.pair0 23 _ _ rfl; obtain ⟨p1, q1, f1, g1⟩ := F.pair1 23 _ _ rfl; obtain ⟨p2, q2, f2, g2⟩ := F.pair2 23 _ _ rfl)) | (go_at_call 33; ((with_reducible refine (HK.out _).mono ?_); rintro e w1 ⟨rfl, hb⟩; have F : Fr w w1 [(23, #[.int .i32 a, .int .i32 b]), (23, #[.int .i32 c, .int .i32 d]), (23, #[.int .i32 0, .int .i32 0])] := (by first | exact F.call hb | exact (F.drewN _).call hb | exact F.drew.call hb | exact (F.alloc _).call hb); obtain ⟨p0, q0, f0, g0⟩ := F.pair0 23 _ _ rfl; obtain ⟨p1, q1, f1, g1⟩ := F.pair1 23 _ _ rfl; obtain ⟨p2, q2, f2, g2⟩ := F.pair2 23 _ _ rfl)))
    have F := F.put2 23 _ _ rfl (.int .i32 ((dv a b c d).1)) (.int .i32 ((dv a b c d).2))
    exact bodyPost_ret (results_cell_row rfl _ _ (w.heap.size + 1 + 1) 23 #[.int .i32 ((dv a b c d).1), .int .i32 ((dv a b c d).2)] (0, 0) _ rfl (F.blk2 23 _ rfl) Try.underlying23 rfl (by kernel_rfl)) rfl ⟨rfl, F.below⟩

set_option maxRecDepth 100000 in
set_option maxHeartbeats 4000000 in
theorem apply_10 (a b c d : Int) (ha : -2147483648 ≤ a) (ha1 : a ≤ 2147483647) (hb : -2147483648 ≤ b) (hb1 : b ≤ 2147483647) (hc : -2147483648 ≤ c) (hc1 : c ≤ 2147483647) (hd : -2147483648 ≤ d) (hd1 : d ≤ 2147483647) (hab : a ≤ b) (hcd : c ≤ d) (hs : ¬ (a = b ∧ c = d)) (w : World) : Calls Try.prog 20 #[.int .u8 10, .agg #[.int .i32 a, .int .i32 b], .agg #[.int .i32 c, .int .i32 d]] w fun e w' => e = .returned (.agg #[.int .i32 (rmd a b c d).1, .int .i32 (rmd a b c d).2]) ∧ Below w.heap.size w w' := by
  have EX := Lib.hid (show decide (a > b) = false from decide_eq_false (by omega))
  have EY := Lib.hid (show decide (c > d) = false from decide_eq_false (by omega))
  have HK : Hid (∀ w, Calls Try.prog 34 #[.agg #[.int .i32 a, .int .i32 b], .agg #[.int .i32 c, .int .i32 d]] w fun e w' => e = .returned (.agg #[.int .i32 (rmd a b c d).1, .int .i32 (rmd a b c d).2]) ∧ Below w.heap.size w w') := Lib.hid (fun w => rem_c a b c d ha ha1 hb hb1 hc hc1 hd hd1 w)
  have hs' : (a == b) = false ∨ ((a == b) = true ∧ (c == d) = false) := by
    by_cases h : a = b
    · right; exact ⟨beq_iff_eq.mpr h, beq_eq_false_iff_ne.mpr (fun h2 => hs ⟨h, h2⟩)⟩
    · left; exact beq_eq_false_iff_ne.mpr h
  clear hs hab hcd ha ha1 hb hb1 hc hc1 hd hd1
  have F := Fr.three w 23 #[.int .i32 a, .int .i32 b] 23 #[.int .i32 c, .int .i32 d] 23 #[.int .i32 0, .int .i32 0]
  rcases hs' with hs | ⟨hs, hs2⟩
  · go_enter Try.func20, Try.ntmps20
    go_wp2_with (first | (go_at_call 17; ((with_reducible refine (isEmpty_r a b _ EX.out _).mono ?_); rintro e w1 ⟨rfl, hb⟩; have F : Fr w w1 [(23, #[.int .i32 a, .int .i32 b]), (23, #[.int .i32 c, .int .i32 d]), (23, #[.int .i32 0, .int .i32 0])] := (by first | exact F.call hb | exact (F.drewN _).call hb | exact F.drew.call hb | exact (F.alloc _).call hb); obtain ⟨p0, q0, f0, g0⟩ := F.pair0 23 _ _ rfl; obtain ⟨p1, q1, f1, g1⟩ := F.pair1 23 _ _ rfl; obtain ⟨p2, q2, f2, g2⟩ := F.pair2 23 _ _ rfl)) | (go_at_call 17; ((with_reducible refine (isEmpty_r c d _ EY.out _).mono ?_); rintro e w1 ⟨rfl, hb⟩; have F : Fr w w1 [(23, #[.int .i32 a, .int .i32 b]), (23, #[.int .i32 c, .int .i32 d]), (23, #[.int .i32 0, .int .i32 0])] := (by first | exact F.call hb | exact (F.drewN _).call hb | exact F.drew.call hb | exact (F.alloc _).call hb); obtain ⟨p0, q0, f0, g0⟩ := F.pair0 23 _ _ rfl; obtain ⟨p1, q1, f1, g1⟩ := F.pair1 23 _ _ rfl; obtain ⟨p2, q2, f2, g2⟩ := F.pair2 23 _ _ rfl)) | (go_at_call 34; ((with_reducible refine (HK.out _).mono ?_); rintro e w1 ⟨rfl, hb⟩; have F : Fr w w1 [(23, #[.int .i32 a, .int .i32 b]), (23, #[.int .i32 c, .int .i32 d]), (23, #[.int .i32 0, .int .i32 0])] := (by first | exact F.call hb | exact (F.drewN _).call hb | exact F.drew.call hb | exact (F.alloc _).call hb); obtain ⟨p0, q0, f0, g0⟩ := F.pair0 23 _ _ rfl; obtain ⟨p1, q1, f1, g1⟩ := F.pair1 23 _ _ rfl; obtain ⟨p2, q2, f2, g2⟩ := F.pair2 23 _ _ rfl)))
    have F := F.put2 23 _ _ rfl (.int .i32 ((rmd a b c d).1)) (.int .i32 ((rmd a b c d).2))
    exact bodyPost_ret (results_cell_row rfl _ _ (w.heap.size + 1 + 1) 23 #[.int .i32 ((rmd a b c d).1), .int .i32 ((rmd a b c d).2)] (0, 0) _ rfl (F.blk2 23 _ rfl) Try.underlying23 rfl (by kernel_rfl)) rfl ⟨rfl, F.below⟩
  · go_enter Try.func20, Try.ntmps20
    go_wp2_with (first | (go_at_call 17; ((with_reducible refine (isEmpty_r a b _ EX.out _).mono ?_); rintro e w1 ⟨rfl, hb⟩; have F : Fr w w1 [(23, #[.int .i32 a, .int .i32 b]), (23, #[.int .i32 c, .int .i32 d]), (23, #[.int .i32 0, .int .i32 0])] := (by first | exact F.call hb | exact (F.drewN _).call hb | exact F.drew.call hb | exact (F.alloc _).call hb); obtain ⟨p0, q0, f0, g0⟩ := F.pair0 23 _ _ rfl; obtain ⟨p1, q1, f1, g1⟩ := F.pair1 23 _ _ rfl; obtain ⟨p2, q2, f2, g2⟩ := F.pair2 23 _ _ rfl)) | (go_at_call 17; ((with_reducible refine (isEmpty_r c d _ EY.out _).mono ?_); rintro e w1 ⟨rfl, hb⟩; have F : Fr w w1 [(23, #[.int .i32 a, .int .i32 b]), (23, #[.int .i32 c, .int .i32 d]), (23, #[.int .i32 0, .int .i32 0])] := (by first | exact F.call hb | exact (F.drewN _).call hb | exact F.drew.call hb | exact (F.alloc _).call hb); obtain ⟨p0, q0, f0, g0⟩ := F.pair0 23 _ _ rfl; obtain ⟨p1, q1, f1, g1⟩ := F.pair1 23 _ _ rfl; obtain ⟨p2, q2, f2, g2⟩ := F.pair2 23 _ _ rfl)) | (go_at_call 34; ((with_reducible refine (HK.out _).mono ?_); rintro e w1 ⟨rfl, hb⟩; have F : Fr w w1 [(23, #[.int .i32 a, .int .i32 b]), (23, #[.int .i32 c, .int .i32 d]), (23, #[.int .i32 0, .int .i32 0])] := (by first | exact F.call hb | exact (F.drewN _).call hb | exact F.drew.call hb | exact (F.alloc _).call hb); obtain ⟨p0, q0, f0, g0⟩ := F.pair0 23 _ _ rfl; obtain ⟨p1, q1, f1, g1⟩ := F.pair1 23 _ _ rfl; obtain ⟨p2, q2, f2, g2⟩ := F.pair2 23 _ _ rfl)))
    have F := F.put2 23 _ _ rfl (.int .i32 ((rmd a b c d).1)) (.int .i32 ((rmd a b c d).2))
    exact bodyPost_ret (results_cell_row rfl _ _ (w.heap.size + 1 + 1) 23 #[.int .i32 ((rmd a b c d).1), .int .i32 ((rmd a b c d).2)] (0, 0) _ rfl (F.blk2 23 _ rfl) Try.underlying23 rfl (by kernel_rfl)) rfl ⟨rfl, F.below⟩

set_option maxRecDepth 100000 in
set_option maxHeartbeats 4000000 in
theorem apply_11 (a b c d : Int) (ha : -2147483648 ≤ a) (ha1 : a ≤ 2147483647) (hb : -2147483648 ≤ b) (hb1 : b ≤ 2147483647) (hc : -2147483648 ≤ c) (hc1 : c ≤ 2147483647) (hd : -2147483648 ≤ d) (hd1 : d ≤ 2147483647) (hab : a ≤ b) (hcd : c ≤ d) (hs : ¬ (a = b ∧ c = d)) (w : World) : Calls Try.prog 20 #[.int .u8 11, .agg #[.int .i32 a, .int .i32 b], .agg #[.int .i32 c, .int .i32 d]] w fun e w' => e = .returned (.agg #[.int .i32 (iand a b c d).1, .int .i32 (iand a b c d).2]) ∧ Below w.heap.size w w' := by
  have EX := Lib.hid (show decide (a > b) = false from decide_eq_false (by omega))
  have EY := Lib.hid (show decide (c > d) = false from decide_eq_false (by omega))
  have HK : Hid (∀ w, Calls Try.prog 35 #[.agg #[.int .i32 a, .int .i32 b], .agg #[.int .i32 c, .int .i32 d]] w fun e w' => e = .returned (.agg #[.int .i32 (iand a b c d).1, .int .i32 (iand a b c d).2]) ∧ Below w.heap.size w w') := Lib.hid (fun w => and_c a b c d w)
  have hs' : (a == b) = false ∨ ((a == b) = true ∧ (c == d) = false) := by
    by_cases h : a = b
    · right; exact ⟨beq_iff_eq.mpr h, beq_eq_false_iff_ne.mpr (fun h2 => hs ⟨h, h2⟩)⟩
    · left; exact beq_eq_false_iff_ne.mpr h
  clear hs hab hcd ha ha1 hb hb1 hc hc1 hd hd1
  have F := Fr.three w 23 #[.int .i32 a, .int .i32 b] 23 #[.int .i32 c, .int .i32 d] 23 #[.int .i32 0, .int .i32 0]
  rcases hs' with hs | ⟨hs, hs2⟩
  · go_enter Try.func20, Try.ntmps20
    go_wp2_with (first | (go_at_call 17; ((with_reducible refine (isEmpty_r a b _ EX.out _).mono ?_); rintro e w1 ⟨rfl, hb⟩; have F : Fr w w1 [(23, #[.int .i32 a, .int .i32 b]), (23, #[.int .i32 c, .int .i32 d]), (23, #[.int .i32 0, .int .i32 0])] := (by first | exact F.call hb | exact (F.drewN _).call hb | exact F.drew.call hb | exact (F.alloc _).call hb); obtain ⟨p0, q0, f0, g0⟩ := F.pair0 23 _ _ rfl; obtain ⟨p1, q1, f1, g1⟩ := F.pair1 23 _ _ rfl; obtain ⟨p2, q2, f2, g2⟩ := F.pair2 23 _ _ rfl)) | (go_at_call 17; ((with_reducible refine (isEmpty_r c d _ EY.out _).mono ?_); rintro e w1 ⟨rfl, hb⟩; have F : Fr w w1 [(23, #[.int .i32 a, .int .i32 b]), (23, #[.int .i32 c, .int .i32 d]), (23, #[.int .i32 0, .int .i32 0])] := (by first | exact F.call hb | exact (F.drewN _).call hb | exact F.drew.call hb | exact (F.alloc _).call hb); obtain ⟨p0, q0, f0, g0⟩ := F.pair0 23 _ _ rfl; obtain ⟨p1, q1, f1, g1⟩ := F.pair1 23 _ _ rfl; obtain ⟨p2, q2, f2, g2⟩ := F.pair2 23 _ _ rfl)) | (go_at_call 35; ((with_reducible refine (HK.out _).mono ?_); rintro e w1 ⟨rfl, hb⟩; have F : Fr w w1 [(23, #[.int .i32 a, .int .i32 b]), (23, #[.int .i32 c, .int .i32 d]), (23, #[.int .i32 0, .int .i32 0])] := (by first | exact F.call hb | exact (F.drewN _).call hb | exact F.drew.call hb | exact (F.alloc _).call hb); obtain ⟨p0, q0, f0, g0⟩ := F.pair0 23 _ _ rfl; obtain ⟨p1, q1, f1, g1⟩ := F.pair1 23 _ _ rfl; obtain ⟨p2, q2, f2, g2⟩ := F.pair2 23 _ _ rfl)))
    have F := F.put2 23 _ _ rfl (.int .i32 ((iand a b c d).1)) (.int .i32 ((iand a b c d).2))
    exact bodyPost_ret (results_cell_row rfl _ _ (w.heap.size + 1 + 1) 23 #[.int .i32 ((iand a b c d).1), .int .i32 ((iand a b c d).2)] (0, 0) _ rfl (F.blk2 23 _ rfl) Try.underlying23 rfl (by kernel_rfl)) rfl ⟨rfl, F.below⟩
  · go_enter Try.func20, Try.ntmps20
    go_wp2_with (first | (go_at_call 17; ((with_reducible refine (isEmpty_r a b _ EX.out _).mono ?_); rintro e w1 ⟨rfl, hb⟩; have F : Fr w w1 [(23, #[.int .i32 a, .int .i32 b]), (23, #[.int .i32 c, .int .i32 d]), (23, #[.int .i32 0, .int .i32 0])] := (by first | exact F.call hb | exact (F.drewN _).call hb | exact F.drew.call hb | exact (F.alloc _).call hb); obtain ⟨p0, q0, f0, g0⟩ := F.pair0 23 _ _ rfl; obtain ⟨p1, q1, f1, g1⟩ := F.pair1 23 _ _ rfl; obtain ⟨p2, q2, f2, g2⟩ := F.pair2 23 _ _ rfl)) | (go_at_call 17; ((with_reducible refine (isEmpty_r c d _ EY.out _).mono ?_); rintro e w1 ⟨rfl, hb⟩; have F : Fr w w1 [(23, #[.int .i32 a, .int .i32 b]), (23, #[.int .i32 c, .int .i32 d]), (23, #[.int .i32 0, .int .i32 0])] := (by first | exact F.call hb | exact (F.drewN _).call hb | exact F.drew.call hb | exact (F.alloc _).call hb); obtain ⟨p0, q0, f0, g0⟩ := F.pair0 23 _ _ rfl; obtain ⟨p1, q1, f1, g1⟩ := F.pair1 23 _ _ rfl; obtain ⟨p2, q2, f2, g2⟩ := F.pair2 23 _ _ rfl)) | (go_at_call 35; ((with_reducible refine (HK.out _).mono ?_); rintro e w1 ⟨rfl, hb⟩; have F : Fr w w1 [(23, #[.int .i32 a, .int .i32 b]), (23, #[.int .i32 c, .int .i32 d]), (23, #[.int .i32 0, .int .i32 0])] := (by first | exact F.call hb | exact (F.drewN _).call hb | exact F.drew.call hb | exact (F.alloc _).call hb); obtain ⟨p0, q0, f0, g0⟩ := F.pair0 23 _ _ rfl; obtain ⟨p1, q1, f1, g1⟩ := F.pair1 23 _ _ rfl; obtain ⟨p2, q2, f2, g2⟩ := F.pair2 23 _ _ rfl)))
    have F := F.put2 23 _ _ rfl (.int .i32 ((iand a b c d).1)) (.int .i32 ((iand a b c d).2))
    exact bodyPost_ret (results_cell_row rfl _ _ (w.heap.size + 1 + 1) 23 #[.int .i32 ((iand a b c d).1), .int .i32 ((iand a b c d).2)] (0, 0) _ rfl (F.blk2 23 _ rfl) Try.underlying23 rfl (by kernel_rfl)) rfl ⟨rfl, F.below⟩

set_option maxRecDepth 100000 in
set_option maxHeartbeats 4000000 in
theorem apply_12 (a b c d : Int) (ha : -2147483648 ≤ a) (ha1 : a ≤ 2147483647) (hb : -2147483648 ≤ b) (hb1 : b ≤ 2147483647) (hc : -2147483648 ≤ c) (hc1 : c ≤ 2147483647) (hd : -2147483648 ≤ d) (hd1 : d ≤ 2147483647) (hab : a ≤ b) (hcd : c ≤ d) (hs : ¬ (a = b ∧ c = d)) (w : World) : Calls Try.prog 20 #[.int .u8 12, .agg #[.int .i32 a, .int .i32 b], .agg #[.int .i32 c, .int .i32 d]] w fun e w' => e = .returned (.agg #[.int .i32 (ior a b c d).1, .int .i32 (ior a b c d).2]) ∧ Below w.heap.size w w' := by
  have EX := Lib.hid (show decide (a > b) = false from decide_eq_false (by omega))
  have EY := Lib.hid (show decide (c > d) = false from decide_eq_false (by omega))
  have HK : Hid (∀ w, Calls Try.prog 36 #[.agg #[.int .i32 a, .int .i32 b], .agg #[.int .i32 c, .int .i32 d]] w fun e w' => e = .returned (.agg #[.int .i32 (ior a b c d).1, .int .i32 (ior a b c d).2]) ∧ Below w.heap.size w w') := Lib.hid (fun w => or_c a b c d hb hb1 hd hd1 w)
  have hs' : (a == b) = false ∨ ((a == b) = true ∧ (c == d) = false) := by
    by_cases h : a = b
    · right; exact ⟨beq_iff_eq.mpr h, beq_eq_false_iff_ne.mpr (fun h2 => hs ⟨h, h2⟩)⟩
    · left; exact beq_eq_false_iff_ne.mpr h
  clear hs hab hcd ha ha1 hb hb1 hc hc1 hd hd1
  have F := Fr.three w 23 #[.int .i32 a, .int .i32 b] 23 #[.int .i32 c, .int .i32 d] 23 #[.int .i32 0, .int .i32 0]
  rcases hs' with hs | ⟨hs, hs2⟩
  · go_enter Try.func20, Try.ntmps20
    go_wp2_with (first | (go_at_call 17; ((with_reducible refine (isEmpty_r a b _ EX.out _).mono ?_); rintro e w1 ⟨rfl, hb⟩; have F : Fr w w1 [(23, #[.int .i32 a, .int .i32 b]), (23, #[.int .i32 c, .int .i32 d]), (23, #[.int .i32 0, .int .i32 0])] := (by first | exact F.call hb | exact (F.drewN _).call hb | exact F.drew.call hb | exact (F.alloc _).call hb); obtain ⟨p0, q0, f0, g0⟩ := F.pair0 23 _ _ rfl; obtain ⟨p1, q1, f1, g1⟩ := F.pair1 23 _ _ rfl; obtain ⟨p2, q2, f2, g2⟩ := F.pair2 23 _ _ rfl)) | (go_at_call 17; ((with_reducible refine (isEmpty_r c d _ EY.out _).mono ?_); rintro e w1 ⟨rfl, hb⟩; have F : Fr w w1 [(23, #[.int .i32 a, .int .i32 b]), (23, #[.int .i32 c, .int .i32 d]), (23, #[.int .i32 0, .int .i32 0])] := (by first | exact F.call hb | exact (F.drewN _).call hb | exact F.drew.call hb | exact (F.alloc _).call hb); obtain ⟨p0, q0, f0, g0⟩ := F.pair0 23 _ _ rfl; obtain ⟨p1, q1, f1, g1⟩ := F.pair1 23 _ _ rfl; obtain ⟨p2, q2, f2, g2⟩ := F.pair2 23 _ _ rfl)) | (go_at_call 36; ((with_reducible refine (HK.out _).mono ?_); rintro e w1 ⟨rfl, hb⟩; have F : Fr w w1 [(23, #[.int .i32 a, .int .i32 b]), (23, #[.int .i32 c, .int .i32 d]), (23, #[.int .i32 0, .int .i32 0])] := (by first | exact F.call hb | exact (F.drewN _).call hb | exact F.drew.call hb | exact (F.alloc _).call hb); obtain ⟨p0, q0, f0, g0⟩ := F.pair0 23 _ _ rfl; obtain ⟨p1, q1, f1, g1⟩ := F.pair1 23 _ _ rfl; obtain ⟨p2, q2, f2, g2⟩ := F.pair2 23 _ _ rfl)))
    have F := F.put2 23 _ _ rfl (.int .i32 ((ior a b c d).1)) (.int .i32 ((ior a b c d).2))
    exact bodyPost_ret (results_cell_row rfl _ _ (w.heap.size + 1 + 1) 23 #[.int .i32 ((ior a b c d).1), .int .i32 ((ior a b c d).2)] (0, 0) _ rfl (F.blk2 23 _ rfl) Try.underlying23 rfl (by kernel_rfl)) rfl ⟨rfl, F.below⟩
  · go_enter Try.func20, Try.ntmps20
    go_wp2_with (first | (go_at_call 17; ((with_reducible refine (isEmpty_r a b _ EX.out _).mono ?_); rintro e w1 ⟨rfl, hb⟩; have F : Fr w w1 [(23, #[.int .i32 a, .int .i32 b]), (23, #[.int .i32 c, .int .i32 d]), (23, #[.int .i32 0, .int .i32 0])] := (by first | exact F.call hb | exact (F.drewN _).call hb | exact F.drew.call hb | exact (F.alloc _).call hb); obtain ⟨p0, q0, f0, g0⟩ := F.pair0 23 _ _ rfl; obtain ⟨p1, q1, f1, g1⟩ := F.pair1 23 _ _ rfl; obtain ⟨p2, q2, f2, g2⟩ := F.pair2 23 _ _ rfl)) | (go_at_call 17; ((with_reducible refine (isEmpty_r c d _ EY.out _).mono ?_); rintro e w1 ⟨rfl, hb⟩; have F : Fr w w1 [(23, #[.int .i32 a, .int .i32 b]), (23, #[.int .i32 c, .int .i32 d]), (23, #[.int .i32 0, .int .i32 0])] := (by first | exact F.call hb | exact (F.drewN _).call hb | exact F.drew.call hb | exact (F.alloc _).call hb); obtain ⟨p0, q0, f0, g0⟩ := F.pair0 23 _ _ rfl; obtain ⟨p1, q1, f1, g1⟩ := F.pair1 23 _ _ rfl; obtain ⟨p2, q2, f2, g2⟩ := F.pair2 23 _ _ rfl)) | (go_at_call 36; ((with_reducible refine (HK.out _).mono ?_); rintro e w1 ⟨rfl, hb⟩; have F : Fr w w1 [(23, #[.int .i32 a, .int .i32 b]), (23, #[.int .i32 c, .int .i32 d]), (23, #[.int .i32 0, .int .i32 0])] := (by first | exact F.call hb | exact (F.drewN _).call hb | exact F.drew.call hb | exact (F.alloc _).call hb); obtain ⟨p0, q0, f0, g0⟩ := F.pair0 23 _ _ rfl; obtain ⟨p1, q1, f1, g1⟩ := F.pair1 23 _ _ rfl; obtain ⟨p2, q2, f2, g2⟩ := F.pair2 23 _ _ rfl)))
    have F := F.put2 23 _ _ rfl (.int .i32 ((ior a b c d).1)) (.int .i32 ((ior a b c d).2))
    exact bodyPost_ret (results_cell_row rfl _ _ (w.heap.size + 1 + 1) 23 #[.int .i32 ((ior a b c d).1), .int .i32 ((ior a b c d).2)] (0, 0) _ rfl (F.blk2 23 _ rfl) Try.underlying23 rfl (by kernel_rfl)) rfl ⟨rfl, F.below⟩

set_option maxRecDepth 100000 in
set_option maxHeartbeats 4000000 in
theorem apply_13 (a b c d : Int) (ha : -2147483648 ≤ a) (ha1 : a ≤ 2147483647) (hb : -2147483648 ≤ b) (hb1 : b ≤ 2147483647) (hc : -2147483648 ≤ c) (hc1 : c ≤ 2147483647) (hd : -2147483648 ≤ d) (hd1 : d ≤ 2147483647) (hab : a ≤ b) (hcd : c ≤ d) (hs : ¬ (a = b ∧ c = d)) (w : World) : Calls Try.prog 20 #[.int .u8 13, .agg #[.int .i32 a, .int .i32 b], .agg #[.int .i32 c, .int .i32 d]] w fun e w' => e = .returned (.agg #[.int .i32 (ixor a b c d).1, .int .i32 (ixor a b c d).2]) ∧ Below w.heap.size w w' := by
  have EX := Lib.hid (show decide (a > b) = false from decide_eq_false (by omega))
  have EY := Lib.hid (show decide (c > d) = false from decide_eq_false (by omega))
  have HK : Hid (∀ w, Calls Try.prog 37 #[.agg #[.int .i32 a, .int .i32 b], .agg #[.int .i32 c, .int .i32 d]] w fun e w' => e = .returned (.agg #[.int .i32 (ixor a b c d).1, .int .i32 (ixor a b c d).2]) ∧ Below w.heap.size w w') := Lib.hid (fun w => xor_c a b c d hb hb1 hd hd1 w)
  have hs' : (a == b) = false ∨ ((a == b) = true ∧ (c == d) = false) := by
    by_cases h : a = b
    · right; exact ⟨beq_iff_eq.mpr h, beq_eq_false_iff_ne.mpr (fun h2 => hs ⟨h, h2⟩)⟩
    · left; exact beq_eq_false_iff_ne.mpr h
  clear hs hab hcd ha ha1 hb hb1 hc hc1 hd hd1
  have F := Fr.three w 23 #[.int .i32 a, .int .i32 b] 23 #[.int .i32 c, .int .i32 d] 23 #[.int .i32 0, .int .i32 0]
  rcases hs' with hs | ⟨hs, hs2⟩
  · go_enter Try.func20, Try.ntmps20
    go_wp2_with (first | (go_at_call 17; ((with_reducible refine (isEmpty_r a b _ EX.out _).mono ?_); rintro e w1 ⟨rfl, hb⟩; have F : Fr w w1 [(23, #[.int .i32 a, .int .i32 b]), (23, #[.int .i32 c, .int .i32 d]), (23, #[.int .i32 0, .int .i32 0])] := (by first | exact F.call hb | exact (F.drewN _).call hb | exact F.drew.call hb | exact (F.alloc _).call hb); obtain ⟨p0, q0, f0, g0⟩ := F.pair0 23 _ _ rfl; obtain ⟨p1, q1, f1, g1⟩ := F.pair1 23 _ _ rfl; obtain ⟨p2, q2, f2, g2⟩ := F.pair2 23 _ _ rfl)) | (go_at_call 17; ((with_reducible refine (isEmpty_r c d _ EY.out _).mono ?_); rintro e w1 ⟨rfl, hb⟩; have F : Fr w w1 [(23, #[.int .i32 a, .int .i32 b]), (23, #[.int .i32 c, .int .i32 d]), (23, #[.int .i32 0, .int .i32 0])] := (by first | exact F.call hb | exact (F.drewN _).call hb | exact F.drew.call hb | exact (F.alloc _).call hb); obtain ⟨p0, q0, f0, g0⟩ := F.pair0 23 _ _ rfl; obtain ⟨p1, q1, f1, g1⟩ := F.pair1 23 _ _ rfl; obtain ⟨p2, q2, f2, g2⟩ := F.pair2 23 _ _ rfl)) | (go_at_call 37; ((with_reducible refine (HK.out _).mono ?_); rintro e w1 ⟨rfl, hb⟩; have F : Fr w w1 [(23, #[.int .i32 a, .int .i32 b]), (23, #[.int .i32 c, .int .i32 d]), (23, #[.int .i32 0, .int .i32 0])] := (by first | exact F.call hb | exact (F.drewN _).call hb | exact F.drew.call hb | exact (F.alloc _).call hb); obtain ⟨p0, q0, f0, g0⟩ := F.pair0 23 _ _ rfl; obtain ⟨p1, q1, f1, g1⟩ := F.pair1 23 _ _ rfl; obtain ⟨p2, q2, f2, g2⟩ := F.pair2 23 _ _ rfl)))
    have F := F.put2 23 _ _ rfl (.int .i32 ((ixor a b c d).1)) (.int .i32 ((ixor a b c d).2))
    exact bodyPost_ret (results_cell_row rfl _ _ (w.heap.size + 1 + 1) 23 #[.int .i32 ((ixor a b c d).1), .int .i32 ((ixor a b c d).2)] (0, 0) _ rfl (F.blk2 23 _ rfl) Try.underlying23 rfl (by kernel_rfl)) rfl ⟨rfl, F.below⟩
  · go_enter Try.func20, Try.ntmps20
    go_wp2_with (first | (go_at_call 17; ((with_reducible refine (isEmpty_r a b _ EX.out _).mono ?_); rintro e w1 ⟨rfl, hb⟩; have F : Fr w w1 [(23, #[.int .i32 a, .int .i32 b]), (23, #[.int .i32 c, .int .i32 d]), (23, #[.int .i32 0, .int .i32 0])] := (by first | exact F.call hb | exact (F.drewN _).call hb | exact F.drew.call hb | exact (F.alloc _).call hb); obtain ⟨p0, q0, f0, g0⟩ := F.pair0 23 _ _ rfl; obtain ⟨p1, q1, f1, g1⟩ := F.pair1 23 _ _ rfl; obtain ⟨p2, q2, f2, g2⟩ := F.pair2 23 _ _ rfl)) | (go_at_call 17; ((with_reducible refine (isEmpty_r c d _ EY.out _).mono ?_); rintro e w1 ⟨rfl, hb⟩; have F : Fr w w1 [(23, #[.int .i32 a, .int .i32 b]), (23, #[.int .i32 c, .int .i32 d]), (23, #[.int .i32 0, .int .i32 0])] := (by first | exact F.call hb | exact (F.drewN _).call hb | exact F.drew.call hb | exact (F.alloc _).call hb); obtain ⟨p0, q0, f0, g0⟩ := F.pair0 23 _ _ rfl; obtain ⟨p1, q1, f1, g1⟩ := F.pair1 23 _ _ rfl; obtain ⟨p2, q2, f2, g2⟩ := F.pair2 23 _ _ rfl)) | (go_at_call 37; ((with_reducible refine (HK.out _).mono ?_); rintro e w1 ⟨rfl, hb⟩; have F : Fr w w1 [(23, #[.int .i32 a, .int .i32 b]), (23, #[.int .i32 c, .int .i32 d]), (23, #[.int .i32 0, .int .i32 0])] := (by first | exact F.call hb | exact (F.drewN _).call hb | exact F.drew.call hb | exact (F.alloc _).call hb); obtain ⟨p0, q0, f0, g0⟩ := F.pair0 23 _ _ rfl; obtain ⟨p1, q1, f1, g1⟩ := F.pair1 23 _ _ rfl; obtain ⟨p2, q2, f2, g2⟩ := F.pair2 23 _ _ rfl)))
    have F := F.put2 23 _ _ rfl (.int .i32 ((ixor a b c d).1)) (.int .i32 ((ixor a b c d).2))
    exact bodyPost_ret (results_cell_row rfl _ _ (w.heap.size + 1 + 1) 23 #[.int .i32 ((ixor a b c d).1), .int .i32 ((ixor a b c d).2)] (0, 0) _ rfl (F.blk2 23 _ rfl) Try.underlying23 rfl (by kernel_rfl)) rfl ⟨rfl, F.below⟩

set_option maxRecDepth 100000 in
set_option maxHeartbeats 4000000 in
theorem apply_14 (a b c d : Int) (ha : -2147483648 ≤ a) (ha1 : a ≤ 2147483647) (hb : -2147483648 ≤ b) (hb1 : b ≤ 2147483647) (hc : -2147483648 ≤ c) (hc1 : c ≤ 2147483647) (hd : -2147483648 ≤ d) (hd1 : d ≤ 2147483647) (hab : a ≤ b) (hcd : c ≤ d) (hs : ¬ (a = b ∧ c = d)) (w : World) : Calls Try.prog 20 #[.int .u8 14, .agg #[.int .i32 a, .int .i32 b], .agg #[.int .i32 c, .int .i32 d]] w fun e w' => e = .returned (.agg #[.int .i32 (lft a b c d).1, .int .i32 (lft a b c d).2]) ∧ Below w.heap.size w w' := by
  have EX := Lib.hid (show decide (a > b) = false from decide_eq_false (by omega))
  have EY := Lib.hid (show decide (c > d) = false from decide_eq_false (by omega))
  have HK : Hid (∀ w, Calls Try.prog 38 #[.agg #[.int .i32 a, .int .i32 b], .agg #[.int .i32 c, .int .i32 d]] w fun e w' => e = .returned (.agg #[.int .i32 (lft a b c d).1, .int .i32 (lft a b c d).2]) ∧ Below w.heap.size w w') := Lib.hid (fun w => left_c a b c d ha ha1 hb hb1 w)
  have hs' : (a == b) = false ∨ ((a == b) = true ∧ (c == d) = false) := by
    by_cases h : a = b
    · right; exact ⟨beq_iff_eq.mpr h, beq_eq_false_iff_ne.mpr (fun h2 => hs ⟨h, h2⟩)⟩
    · left; exact beq_eq_false_iff_ne.mpr h
  clear hs hab hcd ha ha1 hb hb1 hc hc1 hd hd1
  have F := Fr.three w 23 #[.int .i32 a, .int .i32 b] 23 #[.int .i32 c, .int .i32 d] 23 #[.int .i32 0, .int .i32 0]
  rcases hs' with hs | ⟨hs, hs2⟩
  · go_enter Try.func20, Try.ntmps20
    go_wp2_with (first | (go_at_call 17; ((with_reducible refine (isEmpty_r a b _ EX.out _).mono ?_); rintro e w1 ⟨rfl, hb⟩; have F : Fr w w1 [(23, #[.int .i32 a, .int .i32 b]), (23, #[.int .i32 c, .int .i32 d]), (23, #[.int .i32 0, .int .i32 0])] := (by first | exact F.call hb | exact (F.drewN _).call hb | exact F.drew.call hb | exact (F.alloc _).call hb); obtain ⟨p0, q0, f0, g0⟩ := F.pair0 23 _ _ rfl; obtain ⟨p1, q1, f1, g1⟩ := F.pair1 23 _ _ rfl; obtain ⟨p2, q2, f2, g2⟩ := F.pair2 23 _ _ rfl)) | (go_at_call 17; ((with_reducible refine (isEmpty_r c d _ EY.out _).mono ?_); rintro e w1 ⟨rfl, hb⟩; have F : Fr w w1 [(23, #[.int .i32 a, .int .i32 b]), (23, #[.int .i32 c, .int .i32 d]), (23, #[.int .i32 0, .int .i32 0])] := (by first | exact F.call hb | exact (F.drewN _).call hb | exact F.drew.call hb | exact (F.alloc _).call hb); obtain ⟨p0, q0, f0, g0⟩ := F.pair0 23 _ _ rfl; obtain ⟨p1, q1, f1, g1⟩ := F.pair1 23 _ _ rfl; obtain ⟨p2, q2, f2, g2⟩ := F.pair2 23 _ _ rfl)) | (go_at_call 38; ((with_reducible refine (HK.out _).mono ?_); rintro e w1 ⟨rfl, hb⟩; have F : Fr w w1 [(23, #[.int .i32 a, .int .i32 b]), (23, #[.int .i32 c, .int .i32 d]), (23, #[.int .i32 0, .int .i32 0])] := (by first | exact F.call hb | exact (F.drewN _).call hb | exact F.drew.call hb | exact (F.alloc _).call hb); obtain ⟨p0, q0, f0, g0⟩ := F.pair0 23 _ _ rfl; obtain ⟨p1, q1, f1, g1⟩ := F.pair1 23 _ _ rfl; obtain ⟨p2, q2, f2, g2⟩ := F.pair2 23 _ _ rfl)))
    have F := F.put2 23 _ _ rfl (.int .i32 ((lft a b c d).1)) (.int .i32 ((lft a b c d).2))
    exact bodyPost_ret (results_cell_row rfl _ _ (w.heap.size + 1 + 1) 23 #[.int .i32 ((lft a b c d).1), .int .i32 ((lft a b c d).2)] (0, 0) _ rfl (F.blk2 23 _ rfl) Try.underlying23 rfl (by kernel_rfl)) rfl ⟨rfl, F.below⟩
  · go_enter Try.func20, Try.ntmps20
    go_wp2_with (first | (go_at_call 17; ((with_reducible refine (isEmpty_r a b _ EX.out _).mono ?_); rintro e w1 ⟨rfl, hb⟩; have F : Fr w w1 [(23, #[.int .i32 a, .int .i32 b]), (23, #[.int .i32 c, .int .i32 d]), (23, #[.int .i32 0, .int .i32 0])] := (by first | exact F.call hb | exact (F.drewN _).call hb | exact F.drew.call hb | exact (F.alloc _).call hb); obtain ⟨p0, q0, f0, g0⟩ := F.pair0 23 _ _ rfl; obtain ⟨p1, q1, f1, g1⟩ := F.pair1 23 _ _ rfl; obtain ⟨p2, q2, f2, g2⟩ := F.pair2 23 _ _ rfl)) | (go_at_call 17; ((with_reducible refine (isEmpty_r c d _ EY.out _).mono ?_); rintro e w1 ⟨rfl, hb⟩; have F : Fr w w1 [(23, #[.int .i32 a, .int .i32 b]), (23, #[.int .i32 c, .int .i32 d]), (23, #[.int .i32 0, .int .i32 0])] := (by first | exact F.call hb | exact (F.drewN _).call hb | exact F.drew.call hb | exact (F.alloc _).call hb); obtain ⟨p0, q0, f0, g0⟩ := F.pair0 23 _ _ rfl; obtain ⟨p1, q1, f1, g1⟩ := F.pair1 23 _ _ rfl; obtain ⟨p2, q2, f2, g2⟩ := F.pair2 23 _ _ rfl)) | (go_at_call 38; ((with_reducible refine (HK.out _).mono ?_); rintro e w1 ⟨rfl, hb⟩; have F : Fr w w1 [(23, #[.int .i32 a, .int .i32 b]), (23, #[.int .i32 c, .int .i32 d]), (23, #[.int .i32 0, .int .i32 0])] := (by first | exact F.call hb | exact (F.drewN _).call hb | exact F.drew.call hb | exact (F.alloc _).call hb); obtain ⟨p0, q0, f0, g0⟩ := F.pair0 23 _ _ rfl; obtain ⟨p1, q1, f1, g1⟩ := F.pair1 23 _ _ rfl; obtain ⟨p2, q2, f2, g2⟩ := F.pair2 23 _ _ rfl)))
    have F := F.put2 23 _ _ rfl (.int .i32 ((lft a b c d).1)) (.int .i32 ((lft a b c d).2))
    exact bodyPost_ret (results_cell_row rfl _ _ (w.heap.size + 1 + 1) 23 #[.int .i32 ((lft a b c d).1), .int .i32 ((lft a b c d).2)] (0, 0) _ rfl (F.blk2 23 _ rfl) Try.underlying23 rfl (by kernel_rfl)) rfl ⟨rfl, F.below⟩

set_option maxRecDepth 100000 in
set_option maxHeartbeats 4000000 in
theorem apply_15 (a b c d : Int) (ha : -2147483648 ≤ a) (ha1 : a ≤ 2147483647) (hb : -2147483648 ≤ b) (hb1 : b ≤ 2147483647) (hc : -2147483648 ≤ c) (hc1 : c ≤ 2147483647) (hd : -2147483648 ≤ d) (hd1 : d ≤ 2147483647) (hab : a ≤ b) (hcd : c ≤ d) (hs : ¬ (a = b ∧ c = d)) (w : World) : Calls Try.prog 20 #[.int .u8 15, .agg #[.int .i32 a, .int .i32 b], .agg #[.int .i32 c, .int .i32 d]] w fun e w' => e = .returned (.agg #[.int .i32 (rgt a b c d).1, .int .i32 (rgt a b c d).2]) ∧ Below w.heap.size w w' := by
  have EX := Lib.hid (show decide (a > b) = false from decide_eq_false (by omega))
  have EY := Lib.hid (show decide (c > d) = false from decide_eq_false (by omega))
  have HK : Hid (∀ w, Calls Try.prog 39 #[.agg #[.int .i32 a, .int .i32 b], .agg #[.int .i32 c, .int .i32 d]] w fun e w' => e = .returned (.agg #[.int .i32 (rgt a b c d).1, .int .i32 (rgt a b c d).2]) ∧ Below w.heap.size w w') := Lib.hid (fun w => right_c a b c d w)
  have hs' : (a == b) = false ∨ ((a == b) = true ∧ (c == d) = false) := by
    by_cases h : a = b
    · right; exact ⟨beq_iff_eq.mpr h, beq_eq_false_iff_ne.mpr (fun h2 => hs ⟨h, h2⟩)⟩
    · left; exact beq_eq_false_iff_ne.mpr h
  clear hs hab hcd ha ha1 hb hb1 hc hc1 hd hd1
  have F := Fr.three w 23 #[.int .i32 a, .int .i32 b] 23 #[.int .i32 c, .int .i32 d] 23 #[.int .i32 0, .int .i32 0]
  rcases hs' with hs | ⟨hs, hs2⟩
  · go_enter Try.func20, Try.ntmps20
    go_wp2_with (first | (go_at_call 17; ((with_reducible refine (isEmpty_r a b _ EX.out _).mono ?_); rintro e w1 ⟨rfl, hb⟩; have F : Fr w w1 [(23, #[.int .i32 a, .int .i32 b]), (23, #[.int .i32 c, .int .i32 d]), (23, #[.int .i32 0, .int .i32 0])] := (by first | exact F.call hb | exact (F.drewN _).call hb | exact F.drew.call hb | exact (F.alloc _).call hb); obtain ⟨p0, q0, f0, g0⟩ := F.pair0 23 _ _ rfl; obtain ⟨p1, q1, f1, g1⟩ := F.pair1 23 _ _ rfl; obtain ⟨p2, q2, f2, g2⟩ := F.pair2 23 _ _ rfl)) | (go_at_call 17; ((with_reducible refine (isEmpty_r c d _ EY.out _).mono ?_); rintro e w1 ⟨rfl, hb⟩; have F : Fr w w1 [(23, #[.int .i32 a, .int .i32 b]), (23, #[.int .i32 c, .int .i32 d]), (23, #[.int .i32 0, .int .i32 0])] := (by first | exact F.call hb | exact (F.drewN _).call hb | exact F.drew.call hb | exact (F.alloc _).call hb); obtain ⟨p0, q0, f0, g0⟩ := F.pair0 23 _ _ rfl; obtain ⟨p1, q1, f1, g1⟩ := F.pair1 23 _ _ rfl; obtain ⟨p2, q2, f2, g2⟩ := F.pair2 23 _ _ rfl)) | (go_at_call 39; ((with_reducible refine (HK.out _).mono ?_); rintro e w1 ⟨rfl, hb⟩; have F : Fr w w1 [(23, #[.int .i32 a, .int .i32 b]), (23, #[.int .i32 c, .int .i32 d]), (23, #[.int .i32 0, .int .i32 0])] := (by first | exact F.call hb | exact (F.drewN _).call hb | exact F.drew.call hb | exact (F.alloc _).call hb); obtain ⟨p0, q0, f0, g0⟩ := F.pair0 23 _ _ rfl; obtain ⟨p1, q1, f1, g1⟩ := F.pair1 23 _ _ rfl; obtain ⟨p2, q2, f2, g2⟩ := F.pair2 23 _ _ rfl)))
    have F := F.put2 23 _ _ rfl (.int .i32 ((rgt a b c d).1)) (.int .i32 ((rgt a b c d).2))
    exact bodyPost_ret (results_cell_row rfl _ _ (w.heap.size + 1 + 1) 23 #[.int .i32 ((rgt a b c d).1), .int .i32 ((rgt a b c d).2)] (0, 0) _ rfl (F.blk2 23 _ rfl) Try.underlying23 rfl (by kernel_rfl)) rfl ⟨rfl, F.below⟩
  · go_enter Try.func20, Try.ntmps20
    go_wp2_with (first | (go_at_call 17; ((with_reducible refine (isEmpty_r a b _ EX.out _).mono ?_); rintro e w1 ⟨rfl, hb⟩; have F : Fr w w1 [(23, #[.int .i32 a, .int .i32 b]), (23, #[.int .i32 c, .int .i32 d]), (23, #[.int .i32 0, .int .i32 0])] := (by first | exact F.call hb | exact (F.drewN _).call hb | exact F.drew.call hb | exact (F.alloc _).call hb); obtain ⟨p0, q0, f0, g0⟩ := F.pair0 23 _ _ rfl; obtain ⟨p1, q1, f1, g1⟩ := F.pair1 23 _ _ rfl; obtain ⟨p2, q2, f2, g2⟩ := F.pair2 23 _ _ rfl)) | (go_at_call 17; ((with_reducible refine (isEmpty_r c d _ EY.out _).mono ?_); rintro e w1 ⟨rfl, hb⟩; have F : Fr w w1 [(23, #[.int .i32 a, .int .i32 b]), (23, #[.int .i32 c, .int .i32 d]), (23, #[.int .i32 0, .int .i32 0])] := (by first | exact F.call hb | exact (F.drewN _).call hb | exact F.drew.call hb | exact (F.alloc _).call hb); obtain ⟨p0, q0, f0, g0⟩ := F.pair0 23 _ _ rfl; obtain ⟨p1, q1, f1, g1⟩ := F.pair1 23 _ _ rfl; obtain ⟨p2, q2, f2, g2⟩ := F.pair2 23 _ _ rfl)) | (go_at_call 39; ((with_reducible refine (HK.out _).mono ?_); rintro e w1 ⟨rfl, hb⟩; have F : Fr w w1 [(23, #[.int .i32 a, .int .i32 b]), (23, #[.int .i32 c, .int .i32 d]), (23, #[.int .i32 0, .int .i32 0])] := (by first | exact F.call hb | exact (F.drewN _).call hb | exact F.drew.call hb | exact (F.alloc _).call hb); obtain ⟨p0, q0, f0, g0⟩ := F.pair0 23 _ _ rfl; obtain ⟨p1, q1, f1, g1⟩ := F.pair1 23 _ _ rfl; obtain ⟨p2, q2, f2, g2⟩ := F.pair2 23 _ _ rfl)))
    have F := F.put2 23 _ _ rfl (.int .i32 ((rgt a b c d).1)) (.int .i32 ((rgt a b c d).2))
    exact bodyPost_ret (results_cell_row rfl _ _ (w.heap.size + 1 + 1) 23 #[.int .i32 ((rgt a b c d).1), .int .i32 ((rgt a b c d).2)] (0, 0) _ rfl (F.blk2 23 _ rfl) Try.underlying23 rfl (by kernel_rfl)) rfl ⟨rfl, F.below⟩

set_option maxRecDepth 100000 in
set_option maxHeartbeats 4000000 in
theorem apply_dec (k a b c d : Int) (ha : -2147483648 ≤ a) (ha1 : a ≤ 2147483647) (hb : -2147483648 ≤ b) (hb1 : b ≤ 2147483647) (hc : -2147483648 ≤ c) (hc1 : c ≤ 2147483647) (hd : -2147483648 ≤ d) (hd1 : d ≤ 2147483647) (hab : a ≤ b) (hcd : c ≤ d) (h1 : 16 ≤ k) (h2 : k ≤ 23) (hs : ¬ (a = b ∧ c = d)) (w : World) : Calls Try.prog 20 #[.int .u8 k, .agg #[.int .i32 a, .int .i32 b], .agg #[.int .i32 c, .int .i32 d]] w fun e w' => e = .returned (.agg #[.int .i32 (dec k a b c d).1, .int .i32 (dec k a b c d).2]) ∧ Below w.heap.size w w' := by
  have EX := Lib.hid (show decide (a > b) = false from decide_eq_false (by omega))
  have EY := Lib.hid (show decide (c > d) = false from decide_eq_false (by omega))
  have HK : Hid (∀ w, Calls Try.prog 40 #[.int .u8 k, .agg #[.int .i32 a, .int .i32 b], .agg #[.int .i32 c, .int .i32 d]] w fun e w' => e = .returned (.agg #[.int .i32 (dec k a b c d).1, .int .i32 (dec k a b c d).2]) ∧ Below w.heap.size w w') := Lib.hid (fun w => decide_c k a b c d w)
  have k6 : (k == 6) = false := beq_eq_false_iff_ne.mpr (by omega)
  have k7 : (k == 7) = false := beq_eq_false_iff_ne.mpr (by omega)
  have k8 : (k == 8) = false := beq_eq_false_iff_ne.mpr (by omega)
  have k9 : (k == 9) = false := beq_eq_false_iff_ne.mpr (by omega)
  have k10 : (k == 10) = false := beq_eq_false_iff_ne.mpr (by omega)
  have k11 : (k == 11) = false := beq_eq_false_iff_ne.mpr (by omega)
  have k12 : (k == 12) = false := beq_eq_false_iff_ne.mpr (by omega)
  have k13 : (k == 13) = false := beq_eq_false_iff_ne.mpr (by omega)
  have k14 : (k == 14) = false := beq_eq_false_iff_ne.mpr (by omega)
  have k15 : (k == 15) = false := beq_eq_false_iff_ne.mpr (by omega)
  have hs' : (a == b) = false ∨ ((a == b) = true ∧ (c == d) = false) := by
    by_cases h : a = b
    · right; exact ⟨beq_iff_eq.mpr h, beq_eq_false_iff_ne.mpr (fun h2 => hs ⟨h, h2⟩)⟩
    · left; exact beq_eq_false_iff_ne.mpr h
  clear hs hab hcd ha ha1 hb hb1 hc hc1 hd hd1
  have F := Fr.three w 23 #[.int .i32 a, .int .i32 b] 23 #[.int .i32 c, .int .i32 d] 23 #[.int .i32 0, .int .i32 0]
  rcases hs' with hs | ⟨hs, hs2⟩
  · go_enter Try.func20, Try.ntmps20
    go_wp2_with (first | (go_at_call 17; ((with_reducible refine (isEmpty_r a b _ EX.out _).mono ?_); rintro e w1 ⟨rfl, hb⟩; have F : Fr w w1 [(23, #[.int .i32 a, .int .i32 b]), (23, #[.int .i32 c, .int .i32 d]), (23, #[.int .i32 0, .int .i32 0])] := (by first | exact F.call hb | exact (F.drewN _).call hb | exact F.drew.call hb | exact (F.alloc _).call hb); obtain ⟨p0, q0, f0, g0⟩ := F.pair0 23 _ _ rfl; obtain ⟨p1, q1, f1, g1⟩ := F.pair1 23 _ _ rfl; obtain ⟨p2, q2, f2, g2⟩ := F.pair2 23 _ _ rfl)) | (go_at_call 17; ((with_reducible refine (isEmpty_r c d _ EY.out _).mono ?_); rintro e w1 ⟨rfl, hb⟩; have F : Fr w w1 [(23, #[.int .i32 a, .int .i32 b]), (23, #[.int .i32 c, .int .i32 d]), (23, #[.int .i32 0, .int .i32 0])] := (by first | exact F.call hb | exact (F.drewN _).call hb | exact F.drew.call hb | exact (F.alloc _).call hb); obtain ⟨p0, q0, f0, g0⟩ := F.pair0 23 _ _ rfl; obtain ⟨p1, q1, f1, g1⟩ := F.pair1 23 _ _ rfl; obtain ⟨p2, q2, f2, g2⟩ := F.pair2 23 _ _ rfl)) | (go_at_call 40; ((with_reducible refine (HK.out _).mono ?_); rintro e w1 ⟨rfl, hb⟩; have F : Fr w w1 [(23, #[.int .i32 a, .int .i32 b]), (23, #[.int .i32 c, .int .i32 d]), (23, #[.int .i32 0, .int .i32 0])] := (by first | exact F.call hb | exact (F.drewN _).call hb | exact F.drew.call hb | exact (F.alloc _).call hb); obtain ⟨p0, q0, f0, g0⟩ := F.pair0 23 _ _ rfl; obtain ⟨p1, q1, f1, g1⟩ := F.pair1 23 _ _ rfl; obtain ⟨p2, q2, f2, g2⟩ := F.pair2 23 _ _ rfl)))
    have F := F.put2 23 _ _ rfl (.int .i32 ((dec k a b c d).1)) (.int .i32 ((dec k a b c d).2))
    exact bodyPost_ret (results_cell_row rfl _ _ (w.heap.size + 1 + 1) 23 #[.int .i32 ((dec k a b c d).1), .int .i32 ((dec k a b c d).2)] (0, 0) _ rfl (F.blk2 23 _ rfl) Try.underlying23 rfl (by kernel_rfl)) rfl ⟨rfl, F.below⟩
  · go_enter Try.func20, Try.ntmps20
    go_wp2_with (first | (go_at_call 17; ((with_reducible refine (isEmpty_r a b _ EX.out _).mono ?_); rintro e w1 ⟨rfl, hb⟩; have F : Fr w w1 [(23, #[.int .i32 a, .int .i32 b]), (23, #[.int .i32 c, .int .i32 d]), (23, #[.int .i32 0, .int .i32 0])] := (by first | exact F.call hb | exact (F.drewN _).call hb | exact F.drew.call hb | exact (F.alloc _).call hb); obtain ⟨p0, q0, f0, g0⟩ := F.pair0 23 _ _ rfl; obtain ⟨p1, q1, f1, g1⟩ := F.pair1 23 _ _ rfl; obtain ⟨p2, q2, f2, g2⟩ := F.pair2 23 _ _ rfl)) | (go_at_call 17; ((with_reducible refine (isEmpty_r c d _ EY.out _).mono ?_); rintro e w1 ⟨rfl, hb⟩; have F : Fr w w1 [(23, #[.int .i32 a, .int .i32 b]), (23, #[.int .i32 c, .int .i32 d]), (23, #[.int .i32 0, .int .i32 0])] := (by first | exact F.call hb | exact (F.drewN _).call hb | exact F.drew.call hb | exact (F.alloc _).call hb); obtain ⟨p0, q0, f0, g0⟩ := F.pair0 23 _ _ rfl; obtain ⟨p1, q1, f1, g1⟩ := F.pair1 23 _ _ rfl; obtain ⟨p2, q2, f2, g2⟩ := F.pair2 23 _ _ rfl)) | (go_at_call 40; ((with_reducible refine (HK.out _).mono ?_); rintro e w1 ⟨rfl, hb⟩; have F : Fr w w1 [(23, #[.int .i32 a, .int .i32 b]), (23, #[.int .i32 c, .int .i32 d]), (23, #[.int .i32 0, .int .i32 0])] := (by first | exact F.call hb | exact (F.drewN _).call hb | exact F.drew.call hb | exact (F.alloc _).call hb); obtain ⟨p0, q0, f0, g0⟩ := F.pair0 23 _ _ rfl; obtain ⟨p1, q1, f1, g1⟩ := F.pair1 23 _ _ rfl; obtain ⟨p2, q2, f2, g2⟩ := F.pair2 23 _ _ rfl)))
    have F := F.put2 23 _ _ rfl (.int .i32 ((dec k a b c d).1)) (.int .i32 ((dec k a b c d).2))
    exact bodyPost_ret (results_cell_row rfl _ _ (w.heap.size + 1 + 1) 23 #[.int .i32 ((dec k a b c d).1), .int .i32 ((dec k a b c d).2)] (0, 0) _ rfl (F.blk2 23 _ rfl) Try.underlying23 rfl (by kernel_rfl)) rfl ⟨rfl, F.below⟩

theorem apply_c (k a b c d : Int) (ha : -2147483648 ≤ a) (ha1 : a ≤ 2147483647) (hb : -2147483648 ≤ b) (hb1 : b ≤ 2147483647) (hc : -2147483648 ≤ c) (hc1 : c ≤ 2147483647) (hd : -2147483648 ≤ d) (hd1 : d ≤ 2147483647) (w : World) : Calls Try.prog 20 #[.int .u8 k, .agg #[.int .i32 a, .int .i32 b], .agg #[.int .i32 c, .int .i32 d]] w fun e w' => e = .returned (.agg #[.int .i32 (iap k a b c d).1, .int .i32 (iap k a b c d).2]) ∧ Below w.heap.size w w' := by
  by_cases h0 : k < 6 ∨ k > 23
  · have e : iap k a b c d = (-2147483648, 2147483647) := by unfold iap; rw [if_pos h0]
    rw [e]
    exact apply_out k a b c d (by omega) w
  by_cases h1 : a > b ∨ c > d
  · have e : iap k a b c d = (1, 0) := by unfold iap; rw [if_neg h0, if_pos h1]
    rw [e]
    refine apply_empty k a b c d _ _ (by omega) (by omega) rfl rfl ?_ w
    rw [Bool.or_eq_true, decide_eq_true_eq, decide_eq_true_eq]; exact h1
  by_cases h2 : a = b ∧ c = d
  · obtain ⟨rfl, rfl⟩ := h2
    by_cases he : (ap k a c).2 = 0
    · have e : iap k a a c c = ((ap k a c).1, (ap k a c).1) := by unfold iap; rw [if_neg h0, if_neg h1, if_pos ⟨rfl, rfl⟩, if_neg (by simpa using he)]
      rw [e]
      exact apply_one_yes k a c _ _ (by omega) (by omega) rfl (beq_iff_eq.mpr he) w
    · have e : iap k a a c c = (1, 0) := by unfold iap; rw [if_neg h0, if_neg h1, if_pos ⟨rfl, rfl⟩, if_pos he]
      rw [e]
      exact apply_one_no k a c _ _ (by omega) (by omega) rfl (beq_eq_false_iff_ne.mpr he) w
  have hab : a ≤ b := by omega
  have hcd : c ≤ d := by omega
  by_cases h6 : k = 6
  · subst h6
    have e : iap 6 a b c d = cor (fun x y => x + y) a b c d := by
      unfold iap
      rw [if_neg h0, if_neg h1, if_neg h2]
      rfl
    rw [e]
    exact apply_6 a b c d ha ha1 hb hb1 hc hc1 hd hd1 hab hcd h2 w
  by_cases h7 : k = 7
  · subst h7
    have e : iap 7 a b c d = cor (fun x y => x - y) a b c d := by
      unfold iap
      rw [if_neg h0, if_neg h1, if_neg h2]
      rfl
    rw [e]
    exact apply_7 a b c d ha ha1 hb hb1 hc hc1 hd hd1 hab hcd h2 w
  by_cases h8 : k = 8
  · subst h8
    have e : iap 8 a b c d = cor (fun x y => x * y) a b c d := by
      unfold iap
      rw [if_neg h0, if_neg h1, if_neg h2]
      rfl
    rw [e]
    exact apply_8 a b c d ha ha1 hb hb1 hc hc1 hd hd1 hab hcd h2 w
  by_cases h9 : k = 9
  · subst h9
    have e : iap 9 a b c d = dv a b c d := by
      unfold iap
      rw [if_neg h0, if_neg h1, if_neg h2]
      rfl
    rw [e]
    exact apply_9 a b c d ha ha1 hb hb1 hc hc1 hd hd1 hab hcd h2 w
  by_cases h10 : k = 10
  · subst h10
    have e : iap 10 a b c d = rmd a b c d := by
      unfold iap
      rw [if_neg h0, if_neg h1, if_neg h2]
      rfl
    rw [e]
    exact apply_10 a b c d ha ha1 hb hb1 hc hc1 hd hd1 hab hcd h2 w
  by_cases h11 : k = 11
  · subst h11
    have e : iap 11 a b c d = iand a b c d := by
      unfold iap
      rw [if_neg h0, if_neg h1, if_neg h2]
      rfl
    rw [e]
    exact apply_11 a b c d ha ha1 hb hb1 hc hc1 hd hd1 hab hcd h2 w
  by_cases h12 : k = 12
  · subst h12
    have e : iap 12 a b c d = ior a b c d := by
      unfold iap
      rw [if_neg h0, if_neg h1, if_neg h2]
      rfl
    rw [e]
    exact apply_12 a b c d ha ha1 hb hb1 hc hc1 hd hd1 hab hcd h2 w
  by_cases h13 : k = 13
  · subst h13
    have e : iap 13 a b c d = ixor a b c d := by
      unfold iap
      rw [if_neg h0, if_neg h1, if_neg h2]
      rfl
    rw [e]
    exact apply_13 a b c d ha ha1 hb hb1 hc hc1 hd hd1 hab hcd h2 w
  by_cases h14 : k = 14
  · subst h14
    have e : iap 14 a b c d = lft a b c d := by
      unfold iap
      rw [if_neg h0, if_neg h1, if_neg h2]
      rfl
    rw [e]
    exact apply_14 a b c d ha ha1 hb hb1 hc hc1 hd hd1 hab hcd h2 w
  by_cases h15 : k = 15
  · subst h15
    have e : iap 15 a b c d = rgt a b c d := by
      unfold iap
      rw [if_neg h0, if_neg h1, if_neg h2]
      rfl
    rw [e]
    exact apply_15 a b c d ha ha1 hb hb1 hc hc1 hd hd1 hab hcd h2 w
  have e : iap k a b c d = dec k a b c d := by
    unfold iap
    rw [if_neg h0, if_neg h1, if_neg h2, if_neg h6, if_neg h7, if_neg h8, if_neg h9, if_neg h10, if_neg h11, if_neg h12, if_neg h13, if_neg h14, if_neg h15]
  rw [e]
  exact apply_dec k a b c d ha ha1 hb hb1 hc hc1 hd hd1 hab hcd (by omega) (by omega) h2 w

end Go.Proofs.Ytcchelfopbgolaa.Apply
