/- The contract of interval.decide. Conditions: as each theorem says. -/
import Derived.Test.YtcchelfopbgolaaDivide
namespace Go.Proofs.Ytcchelfopbgolaa.Decide
open Go.RowKit Go.Proofs.Ytcchelfopbgolaa.PIntervalSets Go.Proofs.YtcchelfopbgolaaW.PrintWords Go.Proofs.YtcchelfopbgolaaW.PrintLast Go.Proofs.YtcchelfopbgolaaW.PrintMore
open Go.Proofs.YtcchelfopbgolaaPlain Base Blocks Small Corners Divide
set_option linter.unusedSimpArgs false
set_option linter.unusedVariables false

set_option maxRecDepth 100000 in
set_option maxHeartbeats 4000000 in
theorem decide_16 (a b c d : Int) (w : World) : Calls Try.prog 40 #[.int .u8 16, .agg #[.int .i32 a, .int .i32 b], .agg #[.int .i32 c, .int .i32 d]] w fun e w' => e = .returned (.agg #[.int .i32 (tru (false) (decide ((met a b c d).1 > (met a b c d).2))).1, .int .i32 (tru (false) (decide ((met a b c d).1 > (met a b c d).2))).2]) ∧ Below w.heap.size w w' := by
  have F := Fr.three w 23 #[.int .i32 a, .int .i32 b] 23 #[.int .i32 c, .int .i32 d] 23 #[.int .i32 0, .int .i32 0]
  go_enter Try.func40, Try.ntmps40
  go_wp2_with (first | (go_at_call 12; ((with_reducible refine (meet_c _ _ _ _ _).mono ?_); rintro e w1 ⟨rfl, hb⟩; have F : Fr w w1 [(23, #[.int .i32 a, .int .i32 b]), (23, #[.int .i32 c, .int .i32 d]), (23, #[.int .i32 0, .int .i32 0])] := (by first | exact F.call hb | exact (F.drewN _).call hb | exact F.drew.call hb | exact (F.alloc _).call hb); obtain ⟨p0, q0, f0, g0⟩ := F.pair0 23 _ _ rfl; obtain ⟨p1, q1, f1, g1⟩ := F.pair1 23 _ _ rfl; obtain ⟨p2, q2, f2, g2⟩ := F.pair2 23 _ _ rfl)) | (go_at_call 17; ((with_reducible refine (isEmpty_c _ _ _).mono ?_); rintro e w1 ⟨rfl, hb⟩; have F : Fr w w1 [(23, #[.int .i32 a, .int .i32 b]), (23, #[.int .i32 c, .int .i32 d]), (23, #[.int .i32 0, .int .i32 0])] := (by first | exact F.call hb | exact (F.drewN _).call hb | exact F.drew.call hb | exact (F.alloc _).call hb); obtain ⟨p0, q0, f0, g0⟩ := F.pair0 23 _ _ rfl; obtain ⟨p1, q1, f1, g1⟩ := F.pair1 23 _ _ rfl; obtain ⟨p2, q2, f2, g2⟩ := F.pair2 23 _ _ rfl)) | (go_at_call 60; ((with_reducible refine (truth_c _ _ _).mono ?_); rintro e w1 ⟨rfl, hb⟩; have F : Fr w w1 [(23, #[.int .i32 a, .int .i32 b]), (23, #[.int .i32 c, .int .i32 d]), (23, #[.int .i32 0, .int .i32 0])] := (by first | exact F.call hb | exact (F.drewN _).call hb | exact F.drew.call hb | exact (F.alloc _).call hb); obtain ⟨p0, q0, f0, g0⟩ := F.pair0 23 _ _ rfl; obtain ⟨p1, q1, f1, g1⟩ := F.pair1 23 _ _ rfl; obtain ⟨p2, q2, f2, g2⟩ := F.pair2 23 _ _ rfl)))
  have F := F.put2 23 _ _ rfl (.int .i32 ((tru (false) (decide ((met a b c d).1 > (met a b c d).2))).1)) (.int .i32 ((tru (false) (decide ((met a b c d).1 > (met a b c d).2))).2))
  exact bodyPost_ret (results_cell_row rfl _ _ (w.heap.size + 1 + 1) 23 #[.int .i32 ((tru (false) (decide ((met a b c d).1 > (met a b c d).2))).1), .int .i32 ((tru (false) (decide ((met a b c d).1 > (met a b c d).2))).2)] (0, 0) _ rfl (F.blk2 23 _ rfl) Try.underlying23 rfl (by kernel_rfl)) rfl ⟨rfl, F.below⟩

set_option maxRecDepth 100000 in
set_option maxHeartbeats 4000000 in
theorem decide_17 (a b c d : Int) (w : World) : Calls Try.prog 40 #[.int .u8 17, .agg #[.int .i32 a, .int .i32 b], .agg #[.int .i32 c, .int .i32 d]] w fun e w' => e = .returned (.agg #[.int .i32 (tru (decide ((met a b c d).1 > (met a b c d).2)) (false)).1, .int .i32 (tru (decide ((met a b c d).1 > (met a b c d).2)) (false)).2]) ∧ Below w.heap.size w w' := by
  have F := Fr.three w 23 #[.int .i32 a, .int .i32 b] 23 #[.int .i32 c, .int .i32 d] 23 #[.int .i32 0, .int .i32 0]
  go_enter Try.func40, Try.ntmps40
  go_wp2_with (first | (go_at_call 12; ((with_reducible refine (meet_c _ _ _ _ _).mono ?_); rintro e w1 ⟨rfl, hb⟩; have F : Fr w w1 [(23, #[.int .i32 a, .int .i32 b]), (23, #[.int .i32 c, .int .i32 d]), (23, #[.int .i32 0, .int .i32 0])] := (by first | exact F.call hb | exact (F.drewN _).call hb | exact F.drew.call hb | exact (F.alloc _).call hb); obtain ⟨p0, q0, f0, g0⟩ := F.pair0 23 _ _ rfl; obtain ⟨p1, q1, f1, g1⟩ := F.pair1 23 _ _ rfl; obtain ⟨p2, q2, f2, g2⟩ := F.pair2 23 _ _ rfl)) | (go_at_call 17; ((with_reducible refine (isEmpty_c _ _ _).mono ?_); rintro e w1 ⟨rfl, hb⟩; have F : Fr w w1 [(23, #[.int .i32 a, .int .i32 b]), (23, #[.int .i32 c, .int .i32 d]), (23, #[.int .i32 0, .int .i32 0])] := (by first | exact F.call hb | exact (F.drewN _).call hb | exact F.drew.call hb | exact (F.alloc _).call hb); obtain ⟨p0, q0, f0, g0⟩ := F.pair0 23 _ _ rfl; obtain ⟨p1, q1, f1, g1⟩ := F.pair1 23 _ _ rfl; obtain ⟨p2, q2, f2, g2⟩ := F.pair2 23 _ _ rfl)) | (go_at_call 60; ((with_reducible refine (truth_c _ _ _).mono ?_); rintro e w1 ⟨rfl, hb⟩; have F : Fr w w1 [(23, #[.int .i32 a, .int .i32 b]), (23, #[.int .i32 c, .int .i32 d]), (23, #[.int .i32 0, .int .i32 0])] := (by first | exact F.call hb | exact (F.drewN _).call hb | exact F.drew.call hb | exact (F.alloc _).call hb); obtain ⟨p0, q0, f0, g0⟩ := F.pair0 23 _ _ rfl; obtain ⟨p1, q1, f1, g1⟩ := F.pair1 23 _ _ rfl; obtain ⟨p2, q2, f2, g2⟩ := F.pair2 23 _ _ rfl)))
  have F := F.put2 23 _ _ rfl (.int .i32 ((tru (decide ((met a b c d).1 > (met a b c d).2)) (false)).1)) (.int .i32 ((tru (decide ((met a b c d).1 > (met a b c d).2)) (false)).2))
  exact bodyPost_ret (results_cell_row rfl _ _ (w.heap.size + 1 + 1) 23 #[.int .i32 ((tru (decide ((met a b c d).1 > (met a b c d).2)) (false)).1), .int .i32 ((tru (decide ((met a b c d).1 > (met a b c d).2)) (false)).2)] (0, 0) _ rfl (F.blk2 23 _ rfl) Try.underlying23 rfl (by kernel_rfl)) rfl ⟨rfl, F.below⟩

set_option maxRecDepth 100000 in
set_option maxHeartbeats 4000000 in
theorem decide_18 (a b c d : Int) (w : World) : Calls Try.prog 40 #[.int .u8 18, .agg #[.int .i32 a, .int .i32 b], .agg #[.int .i32 c, .int .i32 d]] w fun e w' => e = .returned (.agg #[.int .i32 (tru (decide (b < c)) (decide (a ≥ d))).1, .int .i32 (tru (decide (b < c)) (decide (a ≥ d))).2]) ∧ Below w.heap.size w w' := by
  have F := Fr.three w 23 #[.int .i32 a, .int .i32 b] 23 #[.int .i32 c, .int .i32 d] 23 #[.int .i32 0, .int .i32 0]
  go_enter Try.func40, Try.ntmps40
  go_wp2_with (first | (go_at_call 12; ((with_reducible refine (meet_c _ _ _ _ _).mono ?_); rintro e w1 ⟨rfl, hb⟩; have F : Fr w w1 [(23, #[.int .i32 a, .int .i32 b]), (23, #[.int .i32 c, .int .i32 d]), (23, #[.int .i32 0, .int .i32 0])] := (by first | exact F.call hb | exact (F.drewN _).call hb | exact F.drew.call hb | exact (F.alloc _).call hb); obtain ⟨p0, q0, f0, g0⟩ := F.pair0 23 _ _ rfl; obtain ⟨p1, q1, f1, g1⟩ := F.pair1 23 _ _ rfl; obtain ⟨p2, q2, f2, g2⟩ := F.pair2 23 _ _ rfl)) | (go_at_call 17; ((with_reducible refine (isEmpty_c _ _ _).mono ?_); rintro e w1 ⟨rfl, hb⟩; have F : Fr w w1 [(23, #[.int .i32 a, .int .i32 b]), (23, #[.int .i32 c, .int .i32 d]), (23, #[.int .i32 0, .int .i32 0])] := (by first | exact F.call hb | exact (F.drewN _).call hb | exact F.drew.call hb | exact (F.alloc _).call hb); obtain ⟨p0, q0, f0, g0⟩ := F.pair0 23 _ _ rfl; obtain ⟨p1, q1, f1, g1⟩ := F.pair1 23 _ _ rfl; obtain ⟨p2, q2, f2, g2⟩ := F.pair2 23 _ _ rfl)) | (go_at_call 60; ((with_reducible refine (truth_c _ _ _).mono ?_); rintro e w1 ⟨rfl, hb⟩; have F : Fr w w1 [(23, #[.int .i32 a, .int .i32 b]), (23, #[.int .i32 c, .int .i32 d]), (23, #[.int .i32 0, .int .i32 0])] := (by first | exact F.call hb | exact (F.drewN _).call hb | exact F.drew.call hb | exact (F.alloc _).call hb); obtain ⟨p0, q0, f0, g0⟩ := F.pair0 23 _ _ rfl; obtain ⟨p1, q1, f1, g1⟩ := F.pair1 23 _ _ rfl; obtain ⟨p2, q2, f2, g2⟩ := F.pair2 23 _ _ rfl)))
  have F := F.put2 23 _ _ rfl (.int .i32 ((tru (decide (b < c)) (decide (a ≥ d))).1)) (.int .i32 ((tru (decide (b < c)) (decide (a ≥ d))).2))
  exact bodyPost_ret (results_cell_row rfl _ _ (w.heap.size + 1 + 1) 23 #[.int .i32 ((tru (decide (b < c)) (decide (a ≥ d))).1), .int .i32 ((tru (decide (b < c)) (decide (a ≥ d))).2)] (0, 0) _ rfl (F.blk2 23 _ rfl) Try.underlying23 rfl (by kernel_rfl)) rfl ⟨rfl, F.below⟩

set_option maxRecDepth 100000 in
set_option maxHeartbeats 4000000 in
theorem decide_19 (a b c d : Int) (w : World) : Calls Try.prog 40 #[.int .u8 19, .agg #[.int .i32 a, .int .i32 b], .agg #[.int .i32 c, .int .i32 d]] w fun e w' => e = .returned (.agg #[.int .i32 (tru (decide (b ≤ c)) (decide (a > d))).1, .int .i32 (tru (decide (b ≤ c)) (decide (a > d))).2]) ∧ Below w.heap.size w w' := by
  have F := Fr.three w 23 #[.int .i32 a, .int .i32 b] 23 #[.int .i32 c, .int .i32 d] 23 #[.int .i32 0, .int .i32 0]
  go_enter Try.func40, Try.ntmps40
  go_wp2_with (first | (go_at_call 12; ((with_reducible refine (meet_c _ _ _ _ _).mono ?_); rintro e w1 ⟨rfl, hb⟩; have F : Fr w w1 [(23, #[.int .i32 a, .int .i32 b]), (23, #[.int .i32 c, .int .i32 d]), (23, #[.int .i32 0, .int .i32 0])] := (by first | exact F.call hb | exact (F.drewN _).call hb | exact F.drew.call hb | exact (F.alloc _).call hb); obtain ⟨p0, q0, f0, g0⟩ := F.pair0 23 _ _ rfl; obtain ⟨p1, q1, f1, g1⟩ := F.pair1 23 _ _ rfl; obtain ⟨p2, q2, f2, g2⟩ := F.pair2 23 _ _ rfl)) | (go_at_call 17; ((with_reducible refine (isEmpty_c _ _ _).mono ?_); rintro e w1 ⟨rfl, hb⟩; have F : Fr w w1 [(23, #[.int .i32 a, .int .i32 b]), (23, #[.int .i32 c, .int .i32 d]), (23, #[.int .i32 0, .int .i32 0])] := (by first | exact F.call hb | exact (F.drewN _).call hb | exact F.drew.call hb | exact (F.alloc _).call hb); obtain ⟨p0, q0, f0, g0⟩ := F.pair0 23 _ _ rfl; obtain ⟨p1, q1, f1, g1⟩ := F.pair1 23 _ _ rfl; obtain ⟨p2, q2, f2, g2⟩ := F.pair2 23 _ _ rfl)) | (go_at_call 60; ((with_reducible refine (truth_c _ _ _).mono ?_); rintro e w1 ⟨rfl, hb⟩; have F : Fr w w1 [(23, #[.int .i32 a, .int .i32 b]), (23, #[.int .i32 c, .int .i32 d]), (23, #[.int .i32 0, .int .i32 0])] := (by first | exact F.call hb | exact (F.drewN _).call hb | exact F.drew.call hb | exact (F.alloc _).call hb); obtain ⟨p0, q0, f0, g0⟩ := F.pair0 23 _ _ rfl; obtain ⟨p1, q1, f1, g1⟩ := F.pair1 23 _ _ rfl; obtain ⟨p2, q2, f2, g2⟩ := F.pair2 23 _ _ rfl)))
  have F := F.put2 23 _ _ rfl (.int .i32 ((tru (decide (b ≤ c)) (decide (a > d))).1)) (.int .i32 ((tru (decide (b ≤ c)) (decide (a > d))).2))
  exact bodyPost_ret (results_cell_row rfl _ _ (w.heap.size + 1 + 1) 23 #[.int .i32 ((tru (decide (b ≤ c)) (decide (a > d))).1), .int .i32 ((tru (decide (b ≤ c)) (decide (a > d))).2)] (0, 0) _ rfl (F.blk2 23 _ rfl) Try.underlying23 rfl (by kernel_rfl)) rfl ⟨rfl, F.below⟩

set_option maxRecDepth 100000 in
set_option maxHeartbeats 4000000 in
theorem decide_20 (a b c d : Int) (w : World) : Calls Try.prog 40 #[.int .u8 20, .agg #[.int .i32 a, .int .i32 b], .agg #[.int .i32 c, .int .i32 d]] w fun e w' => e = .returned (.agg #[.int .i32 (tru (decide (a > d)) (decide (b ≤ c))).1, .int .i32 (tru (decide (a > d)) (decide (b ≤ c))).2]) ∧ Below w.heap.size w w' := by
  have F := Fr.three w 23 #[.int .i32 a, .int .i32 b] 23 #[.int .i32 c, .int .i32 d] 23 #[.int .i32 0, .int .i32 0]
  go_enter Try.func40, Try.ntmps40
  go_wp2_with (first | (go_at_call 12; ((with_reducible refine (meet_c _ _ _ _ _).mono ?_); rintro e w1 ⟨rfl, hb⟩; have F : Fr w w1 [(23, #[.int .i32 a, .int .i32 b]), (23, #[.int .i32 c, .int .i32 d]), (23, #[.int .i32 0, .int .i32 0])] := (by first | exact F.call hb | exact (F.drewN _).call hb | exact F.drew.call hb | exact (F.alloc _).call hb); obtain ⟨p0, q0, f0, g0⟩ := F.pair0 23 _ _ rfl; obtain ⟨p1, q1, f1, g1⟩ := F.pair1 23 _ _ rfl; obtain ⟨p2, q2, f2, g2⟩ := F.pair2 23 _ _ rfl)) | (go_at_call 17; ((with_reducible refine (isEmpty_c _ _ _).mono ?_); rintro e w1 ⟨rfl, hb⟩; have F : Fr w w1 [(23, #[.int .i32 a, .int .i32 b]), (23, #[.int .i32 c, .int .i32 d]), (23, #[.int .i32 0, .int .i32 0])] := (by first | exact F.call hb | exact (F.drewN _).call hb | exact F.drew.call hb | exact (F.alloc _).call hb); obtain ⟨p0, q0, f0, g0⟩ := F.pair0 23 _ _ rfl; obtain ⟨p1, q1, f1, g1⟩ := F.pair1 23 _ _ rfl; obtain ⟨p2, q2, f2, g2⟩ := F.pair2 23 _ _ rfl)) | (go_at_call 60; ((with_reducible refine (truth_c _ _ _).mono ?_); rintro e w1 ⟨rfl, hb⟩; have F : Fr w w1 [(23, #[.int .i32 a, .int .i32 b]), (23, #[.int .i32 c, .int .i32 d]), (23, #[.int .i32 0, .int .i32 0])] := (by first | exact F.call hb | exact (F.drewN _).call hb | exact F.drew.call hb | exact (F.alloc _).call hb); obtain ⟨p0, q0, f0, g0⟩ := F.pair0 23 _ _ rfl; obtain ⟨p1, q1, f1, g1⟩ := F.pair1 23 _ _ rfl; obtain ⟨p2, q2, f2, g2⟩ := F.pair2 23 _ _ rfl)))
  have F := F.put2 23 _ _ rfl (.int .i32 ((tru (decide (a > d)) (decide (b ≤ c))).1)) (.int .i32 ((tru (decide (a > d)) (decide (b ≤ c))).2))
  exact bodyPost_ret (results_cell_row rfl _ _ (w.heap.size + 1 + 1) 23 #[.int .i32 ((tru (decide (a > d)) (decide (b ≤ c))).1), .int .i32 ((tru (decide (a > d)) (decide (b ≤ c))).2)] (0, 0) _ rfl (F.blk2 23 _ rfl) Try.underlying23 rfl (by kernel_rfl)) rfl ⟨rfl, F.below⟩

set_option maxRecDepth 100000 in
set_option maxHeartbeats 4000000 in
theorem decide_21 (a b c d : Int) (w : World) : Calls Try.prog 40 #[.int .u8 21, .agg #[.int .i32 a, .int .i32 b], .agg #[.int .i32 c, .int .i32 d]] w fun e w' => e = .returned (.agg #[.int .i32 (tru (decide (a ≥ d)) (decide (b < c))).1, .int .i32 (tru (decide (a ≥ d)) (decide (b < c))).2]) ∧ Below w.heap.size w w' := by
  have F := Fr.three w 23 #[.int .i32 a, .int .i32 b] 23 #[.int .i32 c, .int .i32 d] 23 #[.int .i32 0, .int .i32 0]
  go_enter Try.func40, Try.ntmps40
  go_wp2_with (first | (go_at_call 12; ((with_reducible refine (meet_c _ _ _ _ _).mono ?_); rintro e w1 ⟨rfl, hb⟩; have F : Fr w w1 [(23, #[.int .i32 a, .int .i32 b]), (23, #[.int .i32 c, .int .i32 d]), (23, #[.int .i32 0, .int .i32 0])] := (by first | exact F.call hb | exact (F.drewN _).call hb | exact F.drew.call hb | exact (F.alloc _).call hb); obtain ⟨p0, q0, f0, g0⟩ := F.pair0 23 _ _ rfl; obtain ⟨p1, q1, f1, g1⟩ := F.pair1 23 _ _ rfl; obtain ⟨p2, q2, f2, g2⟩ := F.pair2 23 _ _ rfl)) | (go_at_call 17; ((with_reducible refine (isEmpty_c _ _ _).mono ?_); rintro e w1 ⟨rfl, hb⟩; have F : Fr w w1 [(23, #[.int .i32 a, .int .i32 b]), (23, #[.int .i32 c, .int .i32 d]), (23, #[.int .i32 0, .int .i32 0])] := (by first | exact F.call hb | exact (F.drewN _).call hb | exact F.drew.call hb | exact (F.alloc _).call hb); obtain ⟨p0, q0, f0, g0⟩ := F.pair0 23 _ _ rfl; obtain ⟨p1, q1, f1, g1⟩ := F.pair1 23 _ _ rfl; obtain ⟨p2, q2, f2, g2⟩ := F.pair2 23 _ _ rfl)) | (go_at_call 60; ((with_reducible refine (truth_c _ _ _).mono ?_); rintro e w1 ⟨rfl, hb⟩; have F : Fr w w1 [(23, #[.int .i32 a, .int .i32 b]), (23, #[.int .i32 c, .int .i32 d]), (23, #[.int .i32 0, .int .i32 0])] := (by first | exact F.call hb | exact (F.drewN _).call hb | exact F.drew.call hb | exact (F.alloc _).call hb); obtain ⟨p0, q0, f0, g0⟩ := F.pair0 23 _ _ rfl; obtain ⟨p1, q1, f1, g1⟩ := F.pair1 23 _ _ rfl; obtain ⟨p2, q2, f2, g2⟩ := F.pair2 23 _ _ rfl)))
  have F := F.put2 23 _ _ rfl (.int .i32 ((tru (decide (a ≥ d)) (decide (b < c))).1)) (.int .i32 ((tru (decide (a ≥ d)) (decide (b < c))).2))
  exact bodyPost_ret (results_cell_row rfl _ _ (w.heap.size + 1 + 1) 23 #[.int .i32 ((tru (decide (a ≥ d)) (decide (b < c))).1), .int .i32 ((tru (decide (a ≥ d)) (decide (b < c))).2)] (0, 0) _ rfl (F.blk2 23 _ rfl) Try.underlying23 rfl (by kernel_rfl)) rfl ⟨rfl, F.below⟩

theorem decide_other (k a b c d : Int) (h : k < 16 ∨ 23 < k) (w : World) : Calls Try.prog 40 #[.int .u8 k, .agg #[.int .i32 a, .int .i32 b], .agg #[.int .i32 c, .int .i32 d]] w fun e w' => e = .returned (.agg #[.int .i32 (-2147483648), .int .i32 2147483647]) ∧ Below w.heap.size w w' := by
  have k16 : (k == 16) = false := beq_eq_false_iff_ne.mpr (by omega)
  have k17 : (k == 17) = false := beq_eq_false_iff_ne.mpr (by omega)
  have k18 : (k == 18) = false := beq_eq_false_iff_ne.mpr (by omega)
  have k19 : (k == 19) = false := beq_eq_false_iff_ne.mpr (by omega)
  have k20 : (k == 20) = false := beq_eq_false_iff_ne.mpr (by omega)
  have k21 : (k == 21) = false := beq_eq_false_iff_ne.mpr (by omega)
  have k22 : (k == 22) = false := beq_eq_false_iff_ne.mpr (by omega)
  have k23 : (k == 23) = false := beq_eq_false_iff_ne.mpr (by omega)
  clear h
  have F := Fr.three w 23 #[.int .i32 a, .int .i32 b] 23 #[.int .i32 c, .int .i32 d] 23 #[.int .i32 0, .int .i32 0]
  go_enter Try.func40, Try.ntmps40
  go_wp2_with (first | (go_at_call 12; ((with_reducible refine (meet_c _ _ _ _ _).mono ?_); rintro e w1 ⟨rfl, hb⟩; have F : Fr w w1 [(23, #[.int .i32 a, .int .i32 b]), (23, #[.int .i32 c, .int .i32 d]), (23, #[.int .i32 0, .int .i32 0])] := (by first | exact F.call hb | exact (F.drewN _).call hb | exact F.drew.call hb | exact (F.alloc _).call hb); obtain ⟨p0, q0, f0, g0⟩ := F.pair0 23 _ _ rfl; obtain ⟨p1, q1, f1, g1⟩ := F.pair1 23 _ _ rfl; obtain ⟨p2, q2, f2, g2⟩ := F.pair2 23 _ _ rfl)) | (go_at_call 17; ((with_reducible refine (isEmpty_c _ _ _).mono ?_); rintro e w1 ⟨rfl, hb⟩; have F : Fr w w1 [(23, #[.int .i32 a, .int .i32 b]), (23, #[.int .i32 c, .int .i32 d]), (23, #[.int .i32 0, .int .i32 0])] := (by first | exact F.call hb | exact (F.drewN _).call hb | exact F.drew.call hb | exact (F.alloc _).call hb); obtain ⟨p0, q0, f0, g0⟩ := F.pair0 23 _ _ rfl; obtain ⟨p1, q1, f1, g1⟩ := F.pair1 23 _ _ rfl; obtain ⟨p2, q2, f2, g2⟩ := F.pair2 23 _ _ rfl)) | (go_at_call 25; ((with_reducible refine (full_c _).mono ?_); rintro e w1 ⟨rfl, hb⟩; have F : Fr w w1 [(23, #[.int .i32 a, .int .i32 b]), (23, #[.int .i32 c, .int .i32 d]), (23, #[.int .i32 0, .int .i32 0])] := (by first | exact F.call hb | exact (F.drewN _).call hb | exact F.drew.call hb | exact (F.alloc _).call hb); obtain ⟨p0, q0, f0, g0⟩ := F.pair0 23 _ _ rfl; obtain ⟨p1, q1, f1, g1⟩ := F.pair1 23 _ _ rfl; obtain ⟨p2, q2, f2, g2⟩ := F.pair2 23 _ _ rfl)))
  have F := F.put2 23 _ _ rfl (.int .i32 (-2147483648)) (.int .i32 2147483647)
  exact bodyPost_ret (results_cell_row rfl _ _ (w.heap.size + 1 + 1) 23 #[.int .i32 (-2147483648), .int .i32 2147483647] (0, 0) _ rfl (F.blk2 23 _ rfl) Try.underlying23 rfl (by kernel_rfl)) rfl ⟨rfl, F.below⟩

set_option maxRecDepth 100000 in
set_option maxHeartbeats 4000000 in
theorem decide_22_true_true (a b c d : Int) (sy ny : Bool) (h1 : (!ct a b 0) = true) (h2 : (!ct c d 0) = sy) (h3 : (a == 0 && b == 0) = true) (h4 : (c == 0 && d == 0) = ny) (w : World) : Calls Try.prog 40 #[.int .u8 22, .agg #[.int .i32 a, .int .i32 b], .agg #[.int .i32 c, .int .i32 d]] w fun e w' => e = .returned (.agg #[.int .i32 (tru sy true).1, .int .i32 (tru sy true).2]) ∧ Below w.heap.size w w' := by
  have H1 := Lib.hid h1
  have H2 := Lib.hid h2
  have H3 := Lib.hid h3
  have H4 := Lib.hid h4
  clear h1 h2 h3 h4
  have F := Fr.three w 23 #[.int .i32 a, .int .i32 b] 23 #[.int .i32 c, .int .i32 d] 23 #[.int .i32 0, .int .i32 0]
  go_enter Try.func40, Try.ntmps40
  go_wp2_with (first | (go_at_call 12; ((with_reducible refine (meet_c _ _ _ _ _).mono ?_); rintro e w1 ⟨rfl, hb⟩; have F : Fr w w1 [(23, #[.int .i32 a, .int .i32 b]), (23, #[.int .i32 c, .int .i32 d]), (23, #[.int .i32 0, .int .i32 0])] := (by first | exact F.call hb | exact (F.drewN _).call hb | exact F.drew.call hb | exact (F.alloc _).call hb); obtain ⟨p0, q0, f0, g0⟩ := F.pair0 23 _ _ rfl; obtain ⟨p1, q1, f1, g1⟩ := F.pair1 23 _ _ rfl; obtain ⟨p2, q2, f2, g2⟩ := F.pair2 23 _ _ rfl)) | (go_at_call 17; ((with_reducible refine (isEmpty_c _ _ _).mono ?_); rintro e w1 ⟨rfl, hb⟩; have F : Fr w w1 [(23, #[.int .i32 a, .int .i32 b]), (23, #[.int .i32 c, .int .i32 d]), (23, #[.int .i32 0, .int .i32 0])] := (by first | exact F.call hb | exact (F.drewN _).call hb | exact F.drew.call hb | exact (F.alloc _).call hb); obtain ⟨p0, q0, f0, g0⟩ := F.pair0 23 _ _ rfl; obtain ⟨p1, q1, f1, g1⟩ := F.pair1 23 _ _ rfl; obtain ⟨p2, q2, f2, g2⟩ := F.pair2 23 _ _ rfl)))
  refine start_ (n := 18) (S := fun w' => w'.cell? ⟨w.heap.size, 0, none⟩ = some (.int .i32 a) ∧ w'.cell? ⟨w.heap.size, 1, none⟩ = some (.int .i32 b) ∧ w'.cell? ⟨w.heap.size + 1, 0, none⟩ = some (.int .i32 c) ∧ w'.cell? ⟨w.heap.size + 1, 1, none⟩ = some (.int .i32 d)) (ds := [17]) #[false, false, false, false, false, false, false, false, false, false, false, false, false, false, false, false, false, false] (by kernel_rfl) rfl rfl ⟨p0, q0, p1, q1⟩ (fun hHeld => ?_)
  have F := F.drew
  refine pure_ (i := 0) (N := some 77) (v := ?_) (a' := ?_) #[true, false, false, false, false, false, false, false, false, false, false, false, false, false, false, false, false, false] rfl rfl (by kernel_rfl) (fun _ _ _ h => h) (Or.inl ⟨by rfl, ?_⟩) ?_ ?_
  rotate_left
  · intro w'
    go_simp
    with_reducible rfl
  rotate_left
  · simp only [Act.put, List.setIfInBounds_toArray, List.set_cons_zero, List.set_cons_succ, i64_w, i32_w]
    rfl
  refine pure_ (i := 8) (N := some 85) (v := ?_) (a' := ?_) #[true, false, false, false, false, false, false, false, true, false, false, false, false, false, false, false, false, false] rfl rfl (by kernel_rfl) (fun _ _ _ h => h) (Or.inl ⟨by rfl, ?_⟩) ?_ ?_
  rotate_left
  · intro w'
    go_simp
    with_reducible rfl
  rotate_left
  · simp only [Act.put, List.setIfInBounds_toArray, List.set_cons_zero, List.set_cons_succ, i64_w, i32_w]
    rfl
  refine take_ (i := 1) (N := some 78) (v := ?_) (a' := ?_) #[true, true, false, false, false, false, false, false, true, false, false, false, false, false, false, false, false, false] rfl rfl (by kernel_rfl) (fun _ _ _ h => h) (Or.inl ⟨by rfl, ?_⟩) hHeld ?_ ?_
  rotate_left
  · rintro w' ⟨s0, s1, s2, s3⟩
    go_simp
    with_reducible rfl
  rotate_left
  · simp only [Act.put, List.setIfInBounds_toArray, List.set_cons_zero, List.set_cons_succ, i64_w, i32_w]
    rfl
  refine take_ (i := 9) (N := some 86) (v := ?_) (a' := ?_) #[true, true, false, false, false, false, false, false, true, true, false, false, false, false, false, false, false, false] rfl rfl (by kernel_rfl) (fun _ _ _ h => h) (Or.inl ⟨by rfl, ?_⟩) hHeld ?_ ?_
  rotate_left
  · rintro w' ⟨s0, s1, s2, s3⟩
    go_simp
    with_reducible rfl
  rotate_left
  · simp only [Act.put, List.setIfInBounds_toArray, List.set_cons_zero, List.set_cons_succ, i64_w, i32_w]
    rfl
  refine one_ (i := 2) (N := some 79) #[true, true, true, false, false, false, false, false, true, true, false, false, false, false, false, false, false, false] rfl rfl (by kernel_rfl) (by decide) (fun K hK => ?_)
  rw [if_pos (by rfl)]
  go_simp
  go_at_call 58
  (with_reducible refine (some_c a b _ H1.out _).mono ?_)
  rintro e w1 ⟨rfl, hb⟩
  have F : Fr w w1 [(23, #[.int .i32 a, .int .i32 b]), (23, #[.int .i32 c, .int .i32 d]), (23, #[.int .i32 0, .int .i32 0])] := F.call hb
  obtain ⟨p0, q0, f0, g0⟩ := F.pair0 23 _ _ rfl
  obtain ⟨p1, q1, f1, g1⟩ := F.pair1 23 _ _ rfl
  obtain ⟨p2, q2, f2, g2⟩ := F.pair2 23 _ _ rfl
  refine hK.out _ _ ⟨p0, q0, p1, q1⟩ (fun hHeld => ?_)
  clear hK K
  refine pure_ (i := 3) (N := some 80) (v := ?_) (a' := ?_) #[true, true, true, true, false, false, false, false, true, true, false, false, false, false, false, false, false, false] rfl rfl (by kernel_rfl) (fun _ _ _ h => h) (Or.inl ⟨by rfl, ?_⟩) ?_ ?_
  rotate_left
  · intro w'
    go_simp
    with_reducible rfl
  rotate_left
  · simp only [Act.put, List.setIfInBounds_toArray, List.set_cons_zero, List.set_cons_succ, i64_w, i32_w]
    rfl
  refine pure_ (i := 4) (N := some 81) (v := ?_) (a' := ?_) #[true, true, true, true, true, false, false, false, true, true, false, false, false, false, false, false, false, false] rfl rfl (by kernel_rfl) (fun _ _ _ h => h) (Or.inl ⟨by rfl, ?_⟩) ?_ ?_
  rotate_left
  · intro w'
    go_simp
    with_reducible rfl
  rotate_left
  · simp only [Act.put, List.setIfInBounds_toArray, List.set_cons_zero, List.set_cons_succ, i64_w, i32_w]
    rfl
  refine take_ (i := 5) (N := some 82) (v := ?_) (a' := ?_) #[true, true, true, true, true, true, false, false, true, true, false, false, false, false, false, false, false, false] rfl rfl (by kernel_rfl) (fun _ _ _ h => h) (Or.inl ⟨by rfl, ?_⟩) hHeld ?_ ?_
  rotate_left
  · rintro w' ⟨s0, s1, s2, s3⟩
    go_simp
    with_reducible rfl
  rotate_left
  · simp only [Act.put, List.setIfInBounds_toArray, List.set_cons_zero, List.set_cons_succ, i64_w, i32_w]
    rfl
  refine one_ (i := 6) (N := some 83) #[true, true, true, true, true, true, true, false, true, true, false, false, false, false, false, false, false, false] rfl rfl (by kernel_rfl) (by decide) (fun K hK => ?_)
  rw [if_pos (by rfl)]
  go_simp
  go_at_call 58
  (with_reducible refine (some_c c d _ H2.out _).mono ?_)
  rintro e w1 ⟨rfl, hb⟩
  have F : Fr w w1 [(23, #[.int .i32 a, .int .i32 b]), (23, #[.int .i32 c, .int .i32 d]), (23, #[.int .i32 0, .int .i32 0])] := F.call hb
  obtain ⟨p0, q0, f0, g0⟩ := F.pair0 23 _ _ rfl
  obtain ⟨p1, q1, f1, g1⟩ := F.pair1 23 _ _ rfl
  obtain ⟨p2, q2, f2, g2⟩ := F.pair2 23 _ _ rfl
  refine hK.out _ _ ⟨p0, q0, p1, q1⟩ (fun hHeld => ?_)
  clear hK K
  refine pure_ (i := 7) (N := some 84) (v := ?_) (a' := ?_) #[true, true, true, true, true, true, true, true, true, true, false, false, false, false, false, false, false, false] rfl rfl (by kernel_rfl) (fun _ _ _ h => h) (Or.inl ⟨by rfl, ?_⟩) ?_ ?_
  rotate_left
  · intro w'
    go_simp
    with_reducible rfl
  rotate_left
  · simp only [Act.put, List.setIfInBounds_toArray, List.set_cons_zero, List.set_cons_succ, i64_w, i32_w]
    rfl
  refine one_ (i := 10) (N := some 87) #[true, true, true, true, true, true, true, true, true, true, true, false, false, false, false, false, false, false] rfl rfl (by kernel_rfl) (by decide) (fun K hK => ?_)
  rw [if_pos (by rfl)]
  go_simp
  go_at_call 59
  (with_reducible refine (none_c a b _ H3.out _).mono ?_)
  rintro e w1 ⟨rfl, hb⟩
  have F : Fr w w1 [(23, #[.int .i32 a, .int .i32 b]), (23, #[.int .i32 c, .int .i32 d]), (23, #[.int .i32 0, .int .i32 0])] := F.call hb
  obtain ⟨p0, q0, f0, g0⟩ := F.pair0 23 _ _ rfl
  obtain ⟨p1, q1, f1, g1⟩ := F.pair1 23 _ _ rfl
  obtain ⟨p2, q2, f2, g2⟩ := F.pair2 23 _ _ rfl
  refine hK.out _ _ ⟨p0, q0, p1, q1⟩ (fun hHeld => ?_)
  clear hK K
  refine pure_ (i := 11) (N := some 88) (v := ?_) (a' := ?_) #[true, true, true, true, true, true, true, true, true, true, true, true, false, false, false, false, false, false] rfl rfl (by kernel_rfl) (fun _ _ _ h => h) (Or.inl ⟨by rfl, ?_⟩) ?_ ?_
  rotate_left
  · intro w'
    go_simp
    with_reducible rfl
  rotate_left
  · simp only [Act.put, List.setIfInBounds_toArray, List.set_cons_zero, List.set_cons_succ, i64_w, i32_w]
    rfl
  refine pure_ (i := 12) (N := some 89) (v := undef) (a' := ?_) #[true, true, true, true, true, true, true, true, true, true, true, true, true, false, false, false, false, false] rfl rfl (by kernel_rfl) (fun _ _ _ h => h) (Or.inr ⟨by rfl, rfl⟩) ?_ ?_
  rotate_left
  · simp only [Act.put, List.setIfInBounds_toArray, List.set_cons_zero, List.set_cons_succ, i64_w, i32_w]
    rfl
  refine pure_ (i := 13) (N := some 90) (v := undef) (a' := ?_) #[true, true, true, true, true, true, true, true, true, true, true, true, true, true, false, false, false, false] rfl rfl (by kernel_rfl) (fun _ _ _ h => h) (Or.inr ⟨by rfl, rfl⟩) ?_ ?_
  rotate_left
  · simp only [Act.put, List.setIfInBounds_toArray, List.set_cons_zero, List.set_cons_succ, i64_w, i32_w]
    rfl
  refine pure_ (i := 14) (N := some 91) (v := undef) (a' := ?_) #[true, true, true, true, true, true, true, true, true, true, true, true, true, true, true, false, false, false] rfl rfl (by kernel_rfl) (fun _ _ _ h => h) (Or.inr ⟨by rfl, rfl⟩) ?_ ?_
  rotate_left
  · simp only [Act.put, List.setIfInBounds_toArray, List.set_cons_zero, List.set_cons_succ, i64_w, i32_w]
    rfl
  refine pure_ (i := 15) (N := some 92) (v := ?_) (a' := ?_) #[true, true, true, true, true, true, true, true, true, true, true, true, true, true, true, true, false, false] rfl rfl (by kernel_rfl) (fun _ _ _ h => h) (Or.inl ⟨by rfl, ?_⟩) ?_ ?_
  rotate_left
  · intro w'
    go_simp
    with_reducible rfl
  rotate_left
  · simp only [Act.put, List.setIfInBounds_toArray, List.set_cons_zero, List.set_cons_succ, i64_w, i32_w]
    rfl
  refine one_ (i := 16) (N := some 93) #[true, true, true, true, true, true, true, true, true, true, true, true, true, true, true, true, true, false] rfl rfl (by kernel_rfl) (by decide) (fun K hK => ?_)
  rw [if_pos (by rfl)]
  go_simp
  go_at_call 60
  (with_reducible refine (truth_c _ _ _).mono ?_)
  rintro e w1 ⟨rfl, hb⟩
  have F : Fr w w1 [(23, #[.int .i32 a, .int .i32 b]), (23, #[.int .i32 c, .int .i32 d]), (23, #[.int .i32 0, .int .i32 0])] := F.call hb
  obtain ⟨p0, q0, f0, g0⟩ := F.pair0 23 _ _ rfl
  obtain ⟨p1, q1, f1, g1⟩ := F.pair1 23 _ _ rfl
  obtain ⟨p2, q2, f2, g2⟩ := F.pair2 23 _ _ rfl
  refine hK.out _ _ ⟨p0, q0, p1, q1⟩ (fun hHeld => ?_)
  clear hK K
  refine last_ (i := 17) (N := none) #[true, true, true, true, true, true, true, true, true, true, true, true, true, true, true, true, true, true] rfl rfl (by kernel_rfl) (by decide) (fun K hK => ?_)
  rw [if_pos (by rfl)]
  go_simp
  refine hK.out _ _ ?_
  clear hK K
  refine done_ (by kernel_rfl) ?_
  go_wp2
  have F := F.put2 23 _ _ rfl (.int .i32 ((tru sy true).1)) (.int .i32 ((tru sy true).2))
  exact bodyPost_ret (results_cell_row rfl _ _ (w.heap.size + 1 + 1) 23 #[.int .i32 ((tru sy true).1), .int .i32 ((tru sy true).2)] (0, 0) _ rfl (F.blk2 23 _ rfl) Try.underlying23 rfl (by kernel_rfl)) rfl ⟨rfl, F.below⟩

set_option maxRecDepth 100000 in
set_option maxHeartbeats 4000000 in
theorem decide_22_true_false (a b c d : Int) (sy ny : Bool) (h1 : (!ct a b 0) = true) (h2 : (!ct c d 0) = sy) (h3 : (a == 0 && b == 0) = false) (h4 : (c == 0 && d == 0) = ny) (w : World) : Calls Try.prog 40 #[.int .u8 22, .agg #[.int .i32 a, .int .i32 b], .agg #[.int .i32 c, .int .i32 d]] w fun e w' => e = .returned (.agg #[.int .i32 (tru sy ny).1, .int .i32 (tru sy ny).2]) ∧ Below w.heap.size w w' := by
  have H1 := Lib.hid h1
  have H2 := Lib.hid h2
  have H3 := Lib.hid h3
  have H4 := Lib.hid h4
  clear h1 h2 h3 h4
  have F := Fr.three w 23 #[.int .i32 a, .int .i32 b] 23 #[.int .i32 c, .int .i32 d] 23 #[.int .i32 0, .int .i32 0]
  go_enter Try.func40, Try.ntmps40
  go_wp2_with (first | (go_at_call 12; ((with_reducible refine (meet_c _ _ _ _ _).mono ?_); rintro e w1 ⟨rfl, hb⟩; have F : Fr w w1 [(23, #[.int .i32 a, .int .i32 b]), (23, #[.int .i32 c, .int .i32 d]), (23, #[.int .i32 0, .int .i32 0])] := (by first | exact F.call hb | exact (F.drewN _).call hb | exact F.drew.call hb | exact (F.alloc _).call hb); obtain ⟨p0, q0, f0, g0⟩ := F.pair0 23 _ _ rfl; obtain ⟨p1, q1, f1, g1⟩ := F.pair1 23 _ _ rfl; obtain ⟨p2, q2, f2, g2⟩ := F.pair2 23 _ _ rfl)) | (go_at_call 17; ((with_reducible refine (isEmpty_c _ _ _).mono ?_); rintro e w1 ⟨rfl, hb⟩; have F : Fr w w1 [(23, #[.int .i32 a, .int .i32 b]), (23, #[.int .i32 c, .int .i32 d]), (23, #[.int .i32 0, .int .i32 0])] := (by first | exact F.call hb | exact (F.drewN _).call hb | exact F.drew.call hb | exact (F.alloc _).call hb); obtain ⟨p0, q0, f0, g0⟩ := F.pair0 23 _ _ rfl; obtain ⟨p1, q1, f1, g1⟩ := F.pair1 23 _ _ rfl; obtain ⟨p2, q2, f2, g2⟩ := F.pair2 23 _ _ rfl)))
  refine start_ (n := 18) (S := fun w' => w'.cell? ⟨w.heap.size, 0, none⟩ = some (.int .i32 a) ∧ w'.cell? ⟨w.heap.size, 1, none⟩ = some (.int .i32 b) ∧ w'.cell? ⟨w.heap.size + 1, 0, none⟩ = some (.int .i32 c) ∧ w'.cell? ⟨w.heap.size + 1, 1, none⟩ = some (.int .i32 d)) (ds := [17]) #[false, false, false, false, false, false, false, false, false, false, false, false, false, false, false, false, false, false] (by kernel_rfl) rfl rfl ⟨p0, q0, p1, q1⟩ (fun hHeld => ?_)
  have F := F.drew
  refine pure_ (i := 0) (N := some 77) (v := ?_) (a' := ?_) #[true, false, false, false, false, false, false, false, false, false, false, false, false, false, false, false, false, false] rfl rfl (by kernel_rfl) (fun _ _ _ h => h) (Or.inl ⟨by rfl, ?_⟩) ?_ ?_
  rotate_left
  · intro w'
    go_simp
    with_reducible rfl
  rotate_left
  · simp only [Act.put, List.setIfInBounds_toArray, List.set_cons_zero, List.set_cons_succ, i64_w, i32_w]
    rfl
  refine pure_ (i := 8) (N := some 85) (v := ?_) (a' := ?_) #[true, false, false, false, false, false, false, false, true, false, false, false, false, false, false, false, false, false] rfl rfl (by kernel_rfl) (fun _ _ _ h => h) (Or.inl ⟨by rfl, ?_⟩) ?_ ?_
  rotate_left
  · intro w'
    go_simp
    with_reducible rfl
  rotate_left
  · simp only [Act.put, List.setIfInBounds_toArray, List.set_cons_zero, List.set_cons_succ, i64_w, i32_w]
    rfl
  refine take_ (i := 1) (N := some 78) (v := ?_) (a' := ?_) #[true, true, false, false, false, false, false, false, true, false, false, false, false, false, false, false, false, false] rfl rfl (by kernel_rfl) (fun _ _ _ h => h) (Or.inl ⟨by rfl, ?_⟩) hHeld ?_ ?_
  rotate_left
  · rintro w' ⟨s0, s1, s2, s3⟩
    go_simp
    with_reducible rfl
  rotate_left
  · simp only [Act.put, List.setIfInBounds_toArray, List.set_cons_zero, List.set_cons_succ, i64_w, i32_w]
    rfl
  refine take_ (i := 9) (N := some 86) (v := ?_) (a' := ?_) #[true, true, false, false, false, false, false, false, true, true, false, false, false, false, false, false, false, false] rfl rfl (by kernel_rfl) (fun _ _ _ h => h) (Or.inl ⟨by rfl, ?_⟩) hHeld ?_ ?_
  rotate_left
  · rintro w' ⟨s0, s1, s2, s3⟩
    go_simp
    with_reducible rfl
  rotate_left
  · simp only [Act.put, List.setIfInBounds_toArray, List.set_cons_zero, List.set_cons_succ, i64_w, i32_w]
    rfl
  refine one_ (i := 2) (N := some 79) #[true, true, true, false, false, false, false, false, true, true, false, false, false, false, false, false, false, false] rfl rfl (by kernel_rfl) (by decide) (fun K hK => ?_)
  rw [if_pos (by rfl)]
  go_simp
  go_at_call 58
  (with_reducible refine (some_c a b _ H1.out _).mono ?_)
  rintro e w1 ⟨rfl, hb⟩
  have F : Fr w w1 [(23, #[.int .i32 a, .int .i32 b]), (23, #[.int .i32 c, .int .i32 d]), (23, #[.int .i32 0, .int .i32 0])] := F.call hb
  obtain ⟨p0, q0, f0, g0⟩ := F.pair0 23 _ _ rfl
  obtain ⟨p1, q1, f1, g1⟩ := F.pair1 23 _ _ rfl
  obtain ⟨p2, q2, f2, g2⟩ := F.pair2 23 _ _ rfl
  refine hK.out _ _ ⟨p0, q0, p1, q1⟩ (fun hHeld => ?_)
  clear hK K
  refine pure_ (i := 3) (N := some 80) (v := ?_) (a' := ?_) #[true, true, true, true, false, false, false, false, true, true, false, false, false, false, false, false, false, false] rfl rfl (by kernel_rfl) (fun _ _ _ h => h) (Or.inl ⟨by rfl, ?_⟩) ?_ ?_
  rotate_left
  · intro w'
    go_simp
    with_reducible rfl
  rotate_left
  · simp only [Act.put, List.setIfInBounds_toArray, List.set_cons_zero, List.set_cons_succ, i64_w, i32_w]
    rfl
  refine pure_ (i := 4) (N := some 81) (v := ?_) (a' := ?_) #[true, true, true, true, true, false, false, false, true, true, false, false, false, false, false, false, false, false] rfl rfl (by kernel_rfl) (fun _ _ _ h => h) (Or.inl ⟨by rfl, ?_⟩) ?_ ?_
  rotate_left
  · intro w'
    go_simp
    with_reducible rfl
  rotate_left
  · simp only [Act.put, List.setIfInBounds_toArray, List.set_cons_zero, List.set_cons_succ, i64_w, i32_w]
    rfl
  refine take_ (i := 5) (N := some 82) (v := ?_) (a' := ?_) #[true, true, true, true, true, true, false, false, true, true, false, false, false, false, false, false, false, false] rfl rfl (by kernel_rfl) (fun _ _ _ h => h) (Or.inl ⟨by rfl, ?_⟩) hHeld ?_ ?_
  rotate_left
  · rintro w' ⟨s0, s1, s2, s3⟩
    go_simp
    with_reducible rfl
  rotate_left
  · simp only [Act.put, List.setIfInBounds_toArray, List.set_cons_zero, List.set_cons_succ, i64_w, i32_w]
    rfl
  refine one_ (i := 6) (N := some 83) #[true, true, true, true, true, true, true, false, true, true, false, false, false, false, false, false, false, false] rfl rfl (by kernel_rfl) (by decide) (fun K hK => ?_)
  rw [if_pos (by rfl)]
  go_simp
  go_at_call 58
  (with_reducible refine (some_c c d _ H2.out _).mono ?_)
  rintro e w1 ⟨rfl, hb⟩
  have F : Fr w w1 [(23, #[.int .i32 a, .int .i32 b]), (23, #[.int .i32 c, .int .i32 d]), (23, #[.int .i32 0, .int .i32 0])] := F.call hb
  obtain ⟨p0, q0, f0, g0⟩ := F.pair0 23 _ _ rfl
  obtain ⟨p1, q1, f1, g1⟩ := F.pair1 23 _ _ rfl
  obtain ⟨p2, q2, f2, g2⟩ := F.pair2 23 _ _ rfl
  refine hK.out _ _ ⟨p0, q0, p1, q1⟩ (fun hHeld => ?_)
  clear hK K
  refine pure_ (i := 7) (N := some 84) (v := ?_) (a' := ?_) #[true, true, true, true, true, true, true, true, true, true, false, false, false, false, false, false, false, false] rfl rfl (by kernel_rfl) (fun _ _ _ h => h) (Or.inl ⟨by rfl, ?_⟩) ?_ ?_
  rotate_left
  · intro w'
    go_simp
    with_reducible rfl
  rotate_left
  · simp only [Act.put, List.setIfInBounds_toArray, List.set_cons_zero, List.set_cons_succ, i64_w, i32_w]
    rfl
  refine one_ (i := 10) (N := some 87) #[true, true, true, true, true, true, true, true, true, true, true, false, false, false, false, false, false, false] rfl rfl (by kernel_rfl) (by decide) (fun K hK => ?_)
  rw [if_pos (by rfl)]
  go_simp
  go_at_call 59
  (with_reducible refine (none_c a b _ H3.out _).mono ?_)
  rintro e w1 ⟨rfl, hb⟩
  have F : Fr w w1 [(23, #[.int .i32 a, .int .i32 b]), (23, #[.int .i32 c, .int .i32 d]), (23, #[.int .i32 0, .int .i32 0])] := F.call hb
  obtain ⟨p0, q0, f0, g0⟩ := F.pair0 23 _ _ rfl
  obtain ⟨p1, q1, f1, g1⟩ := F.pair1 23 _ _ rfl
  obtain ⟨p2, q2, f2, g2⟩ := F.pair2 23 _ _ rfl
  refine hK.out _ _ ⟨p0, q0, p1, q1⟩ (fun hHeld => ?_)
  clear hK K
  refine pure_ (i := 11) (N := some 88) (v := ?_) (a' := ?_) #[true, true, true, true, true, true, true, true, true, true, true, true, false, false, false, false, false, false] rfl rfl (by kernel_rfl) (fun _ _ _ h => h) (Or.inl ⟨by rfl, ?_⟩) ?_ ?_
  rotate_left
  · intro w'
    go_simp
    with_reducible rfl
  rotate_left
  · simp only [Act.put, List.setIfInBounds_toArray, List.set_cons_zero, List.set_cons_succ, i64_w, i32_w]
    rfl
  refine pure_ (i := 12) (N := some 89) (v := ?_) (a' := ?_) #[true, true, true, true, true, true, true, true, true, true, true, true, true, false, false, false, false, false] rfl rfl (by kernel_rfl) (fun _ _ _ h => h) (Or.inl ⟨by rfl, ?_⟩) ?_ ?_
  rotate_left
  · intro w'
    go_simp
    with_reducible rfl
  rotate_left
  · simp only [Act.put, List.setIfInBounds_toArray, List.set_cons_zero, List.set_cons_succ, i64_w, i32_w]
    rfl
  refine take_ (i := 13) (N := some 90) (v := ?_) (a' := ?_) #[true, true, true, true, true, true, true, true, true, true, true, true, true, true, false, false, false, false] rfl rfl (by kernel_rfl) (fun _ _ _ h => h) (Or.inl ⟨by rfl, ?_⟩) hHeld ?_ ?_
  rotate_left
  · rintro w' ⟨s0, s1, s2, s3⟩
    go_simp
    with_reducible rfl
  rotate_left
  · simp only [Act.put, List.setIfInBounds_toArray, List.set_cons_zero, List.set_cons_succ, i64_w, i32_w]
    rfl
  refine one_ (i := 14) (N := some 91) #[true, true, true, true, true, true, true, true, true, true, true, true, true, true, true, false, false, false] rfl rfl (by kernel_rfl) (by decide) (fun K hK => ?_)
  rw [if_pos (by rfl)]
  go_simp
  go_at_call 59
  (with_reducible refine (none_c c d _ H4.out _).mono ?_)
  rintro e w1 ⟨rfl, hb⟩
  have F : Fr w w1 [(23, #[.int .i32 a, .int .i32 b]), (23, #[.int .i32 c, .int .i32 d]), (23, #[.int .i32 0, .int .i32 0])] := F.call hb
  obtain ⟨p0, q0, f0, g0⟩ := F.pair0 23 _ _ rfl
  obtain ⟨p1, q1, f1, g1⟩ := F.pair1 23 _ _ rfl
  obtain ⟨p2, q2, f2, g2⟩ := F.pair2 23 _ _ rfl
  refine hK.out _ _ ⟨p0, q0, p1, q1⟩ (fun hHeld => ?_)
  clear hK K
  refine pure_ (i := 15) (N := some 92) (v := ?_) (a' := ?_) #[true, true, true, true, true, true, true, true, true, true, true, true, true, true, true, true, false, false] rfl rfl (by kernel_rfl) (fun _ _ _ h => h) (Or.inl ⟨by rfl, ?_⟩) ?_ ?_
  rotate_left
  · intro w'
    go_simp
    with_reducible rfl
  rotate_left
  · simp only [Act.put, List.setIfInBounds_toArray, List.set_cons_zero, List.set_cons_succ, i64_w, i32_w]
    rfl
  refine one_ (i := 16) (N := some 93) #[true, true, true, true, true, true, true, true, true, true, true, true, true, true, true, true, true, false] rfl rfl (by kernel_rfl) (by decide) (fun K hK => ?_)
  rw [if_pos (by rfl)]
  go_simp
  go_at_call 60
  (with_reducible refine (truth_c _ _ _).mono ?_)
  rintro e w1 ⟨rfl, hb⟩
  have F : Fr w w1 [(23, #[.int .i32 a, .int .i32 b]), (23, #[.int .i32 c, .int .i32 d]), (23, #[.int .i32 0, .int .i32 0])] := F.call hb
  obtain ⟨p0, q0, f0, g0⟩ := F.pair0 23 _ _ rfl
  obtain ⟨p1, q1, f1, g1⟩ := F.pair1 23 _ _ rfl
  obtain ⟨p2, q2, f2, g2⟩ := F.pair2 23 _ _ rfl
  refine hK.out _ _ ⟨p0, q0, p1, q1⟩ (fun hHeld => ?_)
  clear hK K
  refine last_ (i := 17) (N := none) #[true, true, true, true, true, true, true, true, true, true, true, true, true, true, true, true, true, true] rfl rfl (by kernel_rfl) (by decide) (fun K hK => ?_)
  rw [if_pos (by rfl)]
  go_simp
  refine hK.out _ _ ?_
  clear hK K
  refine done_ (by kernel_rfl) ?_
  go_wp2
  have F := F.put2 23 _ _ rfl (.int .i32 ((tru sy ny).1)) (.int .i32 ((tru sy ny).2))
  exact bodyPost_ret (results_cell_row rfl _ _ (w.heap.size + 1 + 1) 23 #[.int .i32 ((tru sy ny).1), .int .i32 ((tru sy ny).2)] (0, 0) _ rfl (F.blk2 23 _ rfl) Try.underlying23 rfl (by kernel_rfl)) rfl ⟨rfl, F.below⟩

set_option maxRecDepth 100000 in
set_option maxHeartbeats 4000000 in
theorem decide_22_false_true (a b c d : Int) (sy ny : Bool) (h1 : (!ct a b 0) = false) (h2 : (!ct c d 0) = sy) (h3 : (a == 0 && b == 0) = true) (h4 : (c == 0 && d == 0) = ny) (w : World) : Calls Try.prog 40 #[.int .u8 22, .agg #[.int .i32 a, .int .i32 b], .agg #[.int .i32 c, .int .i32 d]] w fun e w' => e = .returned (.agg #[.int .i32 (tru false true).1, .int .i32 (tru false true).2]) ∧ Below w.heap.size w w' := by
  have H1 := Lib.hid h1
  have H2 := Lib.hid h2
  have H3 := Lib.hid h3
  have H4 := Lib.hid h4
  clear h1 h2 h3 h4
  have F := Fr.three w 23 #[.int .i32 a, .int .i32 b] 23 #[.int .i32 c, .int .i32 d] 23 #[.int .i32 0, .int .i32 0]
  go_enter Try.func40, Try.ntmps40
  go_wp2_with (first | (go_at_call 12; ((with_reducible refine (meet_c _ _ _ _ _).mono ?_); rintro e w1 ⟨rfl, hb⟩; have F : Fr w w1 [(23, #[.int .i32 a, .int .i32 b]), (23, #[.int .i32 c, .int .i32 d]), (23, #[.int .i32 0, .int .i32 0])] := (by first | exact F.call hb | exact (F.drewN _).call hb | exact F.drew.call hb | exact (F.alloc _).call hb); obtain ⟨p0, q0, f0, g0⟩ := F.pair0 23 _ _ rfl; obtain ⟨p1, q1, f1, g1⟩ := F.pair1 23 _ _ rfl; obtain ⟨p2, q2, f2, g2⟩ := F.pair2 23 _ _ rfl)) | (go_at_call 17; ((with_reducible refine (isEmpty_c _ _ _).mono ?_); rintro e w1 ⟨rfl, hb⟩; have F : Fr w w1 [(23, #[.int .i32 a, .int .i32 b]), (23, #[.int .i32 c, .int .i32 d]), (23, #[.int .i32 0, .int .i32 0])] := (by first | exact F.call hb | exact (F.drewN _).call hb | exact F.drew.call hb | exact (F.alloc _).call hb); obtain ⟨p0, q0, f0, g0⟩ := F.pair0 23 _ _ rfl; obtain ⟨p1, q1, f1, g1⟩ := F.pair1 23 _ _ rfl; obtain ⟨p2, q2, f2, g2⟩ := F.pair2 23 _ _ rfl)))
  refine start_ (n := 18) (S := fun w' => w'.cell? ⟨w.heap.size, 0, none⟩ = some (.int .i32 a) ∧ w'.cell? ⟨w.heap.size, 1, none⟩ = some (.int .i32 b) ∧ w'.cell? ⟨w.heap.size + 1, 0, none⟩ = some (.int .i32 c) ∧ w'.cell? ⟨w.heap.size + 1, 1, none⟩ = some (.int .i32 d)) (ds := [17]) #[false, false, false, false, false, false, false, false, false, false, false, false, false, false, false, false, false, false] (by kernel_rfl) rfl rfl ⟨p0, q0, p1, q1⟩ (fun hHeld => ?_)
  have F := F.drew
  refine pure_ (i := 0) (N := some 77) (v := ?_) (a' := ?_) #[true, false, false, false, false, false, false, false, false, false, false, false, false, false, false, false, false, false] rfl rfl (by kernel_rfl) (fun _ _ _ h => h) (Or.inl ⟨by rfl, ?_⟩) ?_ ?_
  rotate_left
  · intro w'
    go_simp
    with_reducible rfl
  rotate_left
  · simp only [Act.put, List.setIfInBounds_toArray, List.set_cons_zero, List.set_cons_succ, i64_w, i32_w]
    rfl
  refine pure_ (i := 8) (N := some 85) (v := ?_) (a' := ?_) #[true, false, false, false, false, false, false, false, true, false, false, false, false, false, false, false, false, false] rfl rfl (by kernel_rfl) (fun _ _ _ h => h) (Or.inl ⟨by rfl, ?_⟩) ?_ ?_
  rotate_left
  · intro w'
    go_simp
    with_reducible rfl
  rotate_left
  · simp only [Act.put, List.setIfInBounds_toArray, List.set_cons_zero, List.set_cons_succ, i64_w, i32_w]
    rfl
  refine take_ (i := 1) (N := some 78) (v := ?_) (a' := ?_) #[true, true, false, false, false, false, false, false, true, false, false, false, false, false, false, false, false, false] rfl rfl (by kernel_rfl) (fun _ _ _ h => h) (Or.inl ⟨by rfl, ?_⟩) hHeld ?_ ?_
  rotate_left
  · rintro w' ⟨s0, s1, s2, s3⟩
    go_simp
    with_reducible rfl
  rotate_left
  · simp only [Act.put, List.setIfInBounds_toArray, List.set_cons_zero, List.set_cons_succ, i64_w, i32_w]
    rfl
  refine take_ (i := 9) (N := some 86) (v := ?_) (a' := ?_) #[true, true, false, false, false, false, false, false, true, true, false, false, false, false, false, false, false, false] rfl rfl (by kernel_rfl) (fun _ _ _ h => h) (Or.inl ⟨by rfl, ?_⟩) hHeld ?_ ?_
  rotate_left
  · rintro w' ⟨s0, s1, s2, s3⟩
    go_simp
    with_reducible rfl
  rotate_left
  · simp only [Act.put, List.setIfInBounds_toArray, List.set_cons_zero, List.set_cons_succ, i64_w, i32_w]
    rfl
  refine one_ (i := 2) (N := some 79) #[true, true, true, false, false, false, false, false, true, true, false, false, false, false, false, false, false, false] rfl rfl (by kernel_rfl) (by decide) (fun K hK => ?_)
  rw [if_pos (by rfl)]
  go_simp
  go_at_call 58
  (with_reducible refine (some_c a b _ H1.out _).mono ?_)
  rintro e w1 ⟨rfl, hb⟩
  have F : Fr w w1 [(23, #[.int .i32 a, .int .i32 b]), (23, #[.int .i32 c, .int .i32 d]), (23, #[.int .i32 0, .int .i32 0])] := F.call hb
  obtain ⟨p0, q0, f0, g0⟩ := F.pair0 23 _ _ rfl
  obtain ⟨p1, q1, f1, g1⟩ := F.pair1 23 _ _ rfl
  obtain ⟨p2, q2, f2, g2⟩ := F.pair2 23 _ _ rfl
  refine hK.out _ _ ⟨p0, q0, p1, q1⟩ (fun hHeld => ?_)
  clear hK K
  refine pure_ (i := 3) (N := some 80) (v := ?_) (a' := ?_) #[true, true, true, true, false, false, false, false, true, true, false, false, false, false, false, false, false, false] rfl rfl (by kernel_rfl) (fun _ _ _ h => h) (Or.inl ⟨by rfl, ?_⟩) ?_ ?_
  rotate_left
  · intro w'
    go_simp
    with_reducible rfl
  rotate_left
  · simp only [Act.put, List.setIfInBounds_toArray, List.set_cons_zero, List.set_cons_succ, i64_w, i32_w]
    rfl
  refine pure_ (i := 4) (N := some 81) (v := undef) (a' := ?_) #[true, true, true, true, true, false, false, false, true, true, false, false, false, false, false, false, false, false] rfl rfl (by kernel_rfl) (fun _ _ _ h => h) (Or.inr ⟨by rfl, rfl⟩) ?_ ?_
  rotate_left
  · simp only [Act.put, List.setIfInBounds_toArray, List.set_cons_zero, List.set_cons_succ, i64_w, i32_w]
    rfl
  refine pure_ (i := 5) (N := some 82) (v := undef) (a' := ?_) #[true, true, true, true, true, true, false, false, true, true, false, false, false, false, false, false, false, false] rfl rfl (by kernel_rfl) (fun _ _ _ h => h) (Or.inr ⟨by rfl, rfl⟩) ?_ ?_
  rotate_left
  · simp only [Act.put, List.setIfInBounds_toArray, List.set_cons_zero, List.set_cons_succ, i64_w, i32_w]
    rfl
  refine pure_ (i := 6) (N := some 83) (v := undef) (a' := ?_) #[true, true, true, true, true, true, true, false, true, true, false, false, false, false, false, false, false, false] rfl rfl (by kernel_rfl) (fun _ _ _ h => h) (Or.inr ⟨by rfl, rfl⟩) ?_ ?_
  rotate_left
  · simp only [Act.put, List.setIfInBounds_toArray, List.set_cons_zero, List.set_cons_succ, i64_w, i32_w]
    rfl
  refine pure_ (i := 7) (N := some 84) (v := ?_) (a' := ?_) #[true, true, true, true, true, true, true, true, true, true, false, false, false, false, false, false, false, false] rfl rfl (by kernel_rfl) (fun _ _ _ h => h) (Or.inl ⟨by rfl, ?_⟩) ?_ ?_
  rotate_left
  · intro w'
    go_simp
    with_reducible rfl
  rotate_left
  · simp only [Act.put, List.setIfInBounds_toArray, List.set_cons_zero, List.set_cons_succ, i64_w, i32_w]
    rfl
  refine one_ (i := 10) (N := some 87) #[true, true, true, true, true, true, true, true, true, true, true, false, false, false, false, false, false, false] rfl rfl (by kernel_rfl) (by decide) (fun K hK => ?_)
  rw [if_pos (by rfl)]
  go_simp
  go_at_call 59
  (with_reducible refine (none_c a b _ H3.out _).mono ?_)
  rintro e w1 ⟨rfl, hb⟩
  have F : Fr w w1 [(23, #[.int .i32 a, .int .i32 b]), (23, #[.int .i32 c, .int .i32 d]), (23, #[.int .i32 0, .int .i32 0])] := F.call hb
  obtain ⟨p0, q0, f0, g0⟩ := F.pair0 23 _ _ rfl
  obtain ⟨p1, q1, f1, g1⟩ := F.pair1 23 _ _ rfl
  obtain ⟨p2, q2, f2, g2⟩ := F.pair2 23 _ _ rfl
  refine hK.out _ _ ⟨p0, q0, p1, q1⟩ (fun hHeld => ?_)
  clear hK K
  refine pure_ (i := 11) (N := some 88) (v := ?_) (a' := ?_) #[true, true, true, true, true, true, true, true, true, true, true, true, false, false, false, false, false, false] rfl rfl (by kernel_rfl) (fun _ _ _ h => h) (Or.inl ⟨by rfl, ?_⟩) ?_ ?_
  rotate_left
  · intro w'
    go_simp
    with_reducible rfl
  rotate_left
  · simp only [Act.put, List.setIfInBounds_toArray, List.set_cons_zero, List.set_cons_succ, i64_w, i32_w]
    rfl
  refine pure_ (i := 12) (N := some 89) (v := undef) (a' := ?_) #[true, true, true, true, true, true, true, true, true, true, true, true, true, false, false, false, false, false] rfl rfl (by kernel_rfl) (fun _ _ _ h => h) (Or.inr ⟨by rfl, rfl⟩) ?_ ?_
  rotate_left
  · simp only [Act.put, List.setIfInBounds_toArray, List.set_cons_zero, List.set_cons_succ, i64_w, i32_w]
    rfl
  refine pure_ (i := 13) (N := some 90) (v := undef) (a' := ?_) #[true, true, true, true, true, true, true, true, true, true, true, true, true, true, false, false, false, false] rfl rfl (by kernel_rfl) (fun _ _ _ h => h) (Or.inr ⟨by rfl, rfl⟩) ?_ ?_
  rotate_left
  · simp only [Act.put, List.setIfInBounds_toArray, List.set_cons_zero, List.set_cons_succ, i64_w, i32_w]
    rfl
  refine pure_ (i := 14) (N := some 91) (v := undef) (a' := ?_) #[true, true, true, true, true, true, true, true, true, true, true, true, true, true, true, false, false, false] rfl rfl (by kernel_rfl) (fun _ _ _ h => h) (Or.inr ⟨by rfl, rfl⟩) ?_ ?_
  rotate_left
  · simp only [Act.put, List.setIfInBounds_toArray, List.set_cons_zero, List.set_cons_succ, i64_w, i32_w]
    rfl
  refine pure_ (i := 15) (N := some 92) (v := ?_) (a' := ?_) #[true, true, true, true, true, true, true, true, true, true, true, true, true, true, true, true, false, false] rfl rfl (by kernel_rfl) (fun _ _ _ h => h) (Or.inl ⟨by rfl, ?_⟩) ?_ ?_
  rotate_left
  · intro w'
    go_simp
    with_reducible rfl
  rotate_left
  · simp only [Act.put, List.setIfInBounds_toArray, List.set_cons_zero, List.set_cons_succ, i64_w, i32_w]
    rfl
  refine one_ (i := 16) (N := some 93) #[true, true, true, true, true, true, true, true, true, true, true, true, true, true, true, true, true, false] rfl rfl (by kernel_rfl) (by decide) (fun K hK => ?_)
  rw [if_pos (by rfl)]
  go_simp
  go_at_call 60
  (with_reducible refine (truth_c _ _ _).mono ?_)
  rintro e w1 ⟨rfl, hb⟩
  have F : Fr w w1 [(23, #[.int .i32 a, .int .i32 b]), (23, #[.int .i32 c, .int .i32 d]), (23, #[.int .i32 0, .int .i32 0])] := F.call hb
  obtain ⟨p0, q0, f0, g0⟩ := F.pair0 23 _ _ rfl
  obtain ⟨p1, q1, f1, g1⟩ := F.pair1 23 _ _ rfl
  obtain ⟨p2, q2, f2, g2⟩ := F.pair2 23 _ _ rfl
  refine hK.out _ _ ⟨p0, q0, p1, q1⟩ (fun hHeld => ?_)
  clear hK K
  refine last_ (i := 17) (N := none) #[true, true, true, true, true, true, true, true, true, true, true, true, true, true, true, true, true, true] rfl rfl (by kernel_rfl) (by decide) (fun K hK => ?_)
  rw [if_pos (by rfl)]
  go_simp
  refine hK.out _ _ ?_
  clear hK K
  refine done_ (by kernel_rfl) ?_
  go_wp2
  have F := F.put2 23 _ _ rfl (.int .i32 ((tru false true).1)) (.int .i32 ((tru false true).2))
  exact bodyPost_ret (results_cell_row rfl _ _ (w.heap.size + 1 + 1) 23 #[.int .i32 ((tru false true).1), .int .i32 ((tru false true).2)] (0, 0) _ rfl (F.blk2 23 _ rfl) Try.underlying23 rfl (by kernel_rfl)) rfl ⟨rfl, F.below⟩

set_option maxRecDepth 100000 in
set_option maxHeartbeats 4000000 in
theorem decide_22_false_false (a b c d : Int) (sy ny : Bool) (h1 : (!ct a b 0) = false) (h2 : (!ct c d 0) = sy) (h3 : (a == 0 && b == 0) = false) (h4 : (c == 0 && d == 0) = ny) (w : World) : Calls Try.prog 40 #[.int .u8 22, .agg #[.int .i32 a, .int .i32 b], .agg #[.int .i32 c, .int .i32 d]] w fun e w' => e = .returned (.agg #[.int .i32 (tru false ny).1, .int .i32 (tru false ny).2]) ∧ Below w.heap.size w w' := by
  have H1 := Lib.hid h1
  have H2 := Lib.hid h2
  have H3 := Lib.hid h3
  have H4 := Lib.hid h4
  clear h1 h2 h3 h4
  have F := Fr.three w 23 #[.int .i32 a, .int .i32 b] 23 #[.int .i32 c, .int .i32 d] 23 #[.int .i32 0, .int .i32 0]
  go_enter Try.func40, Try.ntmps40
  go_wp2_with (first | (go_at_call 12; ((with_reducible refine (meet_c _ _ _ _ _).mono ?_); rintro e w1 ⟨rfl, hb⟩; have F : Fr w w1 [(23, #[.int .i32 a, .int .i32 b]), (23, #[.int .i32 c, .int .i32 d]), (23, #[.int .i32 0, .int .i32 0])] := (by first | exact F.call hb | exact (F.drewN _).call hb | exact F.drew.call hb | exact (F.alloc _).call hb); obtain ⟨p0, q0, f0, g0⟩ := F.pair0 23 _ _ rfl; obtain ⟨p1, q1, f1, g1⟩ := F.pair1 23 _ _ rfl; obtain ⟨p2, q2, f2, g2⟩ := F.pair2 23 _ _ rfl)) | (go_at_call 17; ((with_reducible refine (isEmpty_c _ _ _).mono ?_); rintro e w1 ⟨rfl, hb⟩; have F : Fr w w1 [(23, #[.int .i32 a, .int .i32 b]), (23, #[.int .i32 c, .int .i32 d]), (23, #[.int .i32 0, .int .i32 0])] := (by first | exact F.call hb | exact (F.drewN _).call hb | exact F.drew.call hb | exact (F.alloc _).call hb); obtain ⟨p0, q0, f0, g0⟩ := F.pair0 23 _ _ rfl; obtain ⟨p1, q1, f1, g1⟩ := F.pair1 23 _ _ rfl; obtain ⟨p2, q2, f2, g2⟩ := F.pair2 23 _ _ rfl)))
  refine start_ (n := 18) (S := fun w' => w'.cell? ⟨w.heap.size, 0, none⟩ = some (.int .i32 a) ∧ w'.cell? ⟨w.heap.size, 1, none⟩ = some (.int .i32 b) ∧ w'.cell? ⟨w.heap.size + 1, 0, none⟩ = some (.int .i32 c) ∧ w'.cell? ⟨w.heap.size + 1, 1, none⟩ = some (.int .i32 d)) (ds := [17]) #[false, false, false, false, false, false, false, false, false, false, false, false, false, false, false, false, false, false] (by kernel_rfl) rfl rfl ⟨p0, q0, p1, q1⟩ (fun hHeld => ?_)
  have F := F.drew
  refine pure_ (i := 0) (N := some 77) (v := ?_) (a' := ?_) #[true, false, false, false, false, false, false, false, false, false, false, false, false, false, false, false, false, false] rfl rfl (by kernel_rfl) (fun _ _ _ h => h) (Or.inl ⟨by rfl, ?_⟩) ?_ ?_
  rotate_left
  · intro w'
    go_simp
    with_reducible rfl
  rotate_left
  · simp only [Act.put, List.setIfInBounds_toArray, List.set_cons_zero, List.set_cons_succ, i64_w, i32_w]
    rfl
  refine pure_ (i := 8) (N := some 85) (v := ?_) (a' := ?_) #[true, false, false, false, false, false, false, false, true, false, false, false, false, false, false, false, false, false] rfl rfl (by kernel_rfl) (fun _ _ _ h => h) (Or.inl ⟨by rfl, ?_⟩) ?_ ?_
  rotate_left
  · intro w'
    go_simp
    with_reducible rfl
  rotate_left
  · simp only [Act.put, List.setIfInBounds_toArray, List.set_cons_zero, List.set_cons_succ, i64_w, i32_w]
    rfl
  refine take_ (i := 1) (N := some 78) (v := ?_) (a' := ?_) #[true, true, false, false, false, false, false, false, true, false, false, false, false, false, false, false, false, false] rfl rfl (by kernel_rfl) (fun _ _ _ h => h) (Or.inl ⟨by rfl, ?_⟩) hHeld ?_ ?_
  rotate_left
  · rintro w' ⟨s0, s1, s2, s3⟩
    go_simp
    with_reducible rfl
  rotate_left
  · simp only [Act.put, List.setIfInBounds_toArray, List.set_cons_zero, List.set_cons_succ, i64_w, i32_w]
    rfl
  refine take_ (i := 9) (N := some 86) (v := ?_) (a' := ?_) #[true, true, false, false, false, false, false, false, true, true, false, false, false, false, false, false, false, false] rfl rfl (by kernel_rfl) (fun _ _ _ h => h) (Or.inl ⟨by rfl, ?_⟩) hHeld ?_ ?_
  rotate_left
  · rintro w' ⟨s0, s1, s2, s3⟩
    go_simp
    with_reducible rfl
  rotate_left
  · simp only [Act.put, List.setIfInBounds_toArray, List.set_cons_zero, List.set_cons_succ, i64_w, i32_w]
    rfl
  refine one_ (i := 2) (N := some 79) #[true, true, true, false, false, false, false, false, true, true, false, false, false, false, false, false, false, false] rfl rfl (by kernel_rfl) (by decide) (fun K hK => ?_)
  rw [if_pos (by rfl)]
  go_simp
  go_at_call 58
  (with_reducible refine (some_c a b _ H1.out _).mono ?_)
  rintro e w1 ⟨rfl, hb⟩
  have F : Fr w w1 [(23, #[.int .i32 a, .int .i32 b]), (23, #[.int .i32 c, .int .i32 d]), (23, #[.int .i32 0, .int .i32 0])] := F.call hb
  obtain ⟨p0, q0, f0, g0⟩ := F.pair0 23 _ _ rfl
  obtain ⟨p1, q1, f1, g1⟩ := F.pair1 23 _ _ rfl
  obtain ⟨p2, q2, f2, g2⟩ := F.pair2 23 _ _ rfl
  refine hK.out _ _ ⟨p0, q0, p1, q1⟩ (fun hHeld => ?_)
  clear hK K
  refine pure_ (i := 3) (N := some 80) (v := ?_) (a' := ?_) #[true, true, true, true, false, false, false, false, true, true, false, false, false, false, false, false, false, false] rfl rfl (by kernel_rfl) (fun _ _ _ h => h) (Or.inl ⟨by rfl, ?_⟩) ?_ ?_
  rotate_left
  · intro w'
    go_simp
    with_reducible rfl
  rotate_left
  · simp only [Act.put, List.setIfInBounds_toArray, List.set_cons_zero, List.set_cons_succ, i64_w, i32_w]
    rfl
  refine pure_ (i := 4) (N := some 81) (v := undef) (a' := ?_) #[true, true, true, true, true, false, false, false, true, true, false, false, false, false, false, false, false, false] rfl rfl (by kernel_rfl) (fun _ _ _ h => h) (Or.inr ⟨by rfl, rfl⟩) ?_ ?_
  rotate_left
  · simp only [Act.put, List.setIfInBounds_toArray, List.set_cons_zero, List.set_cons_succ, i64_w, i32_w]
    rfl
  refine pure_ (i := 5) (N := some 82) (v := undef) (a' := ?_) #[true, true, true, true, true, true, false, false, true, true, false, false, false, false, false, false, false, false] rfl rfl (by kernel_rfl) (fun _ _ _ h => h) (Or.inr ⟨by rfl, rfl⟩) ?_ ?_
  rotate_left
  · simp only [Act.put, List.setIfInBounds_toArray, List.set_cons_zero, List.set_cons_succ, i64_w, i32_w]
    rfl
  refine pure_ (i := 6) (N := some 83) (v := undef) (a' := ?_) #[true, true, true, true, true, true, true, false, true, true, false, false, false, false, false, false, false, false] rfl rfl (by kernel_rfl) (fun _ _ _ h => h) (Or.inr ⟨by rfl, rfl⟩) ?_ ?_
  rotate_left
  · simp only [Act.put, List.setIfInBounds_toArray, List.set_cons_zero, List.set_cons_succ, i64_w, i32_w]
    rfl
  refine pure_ (i := 7) (N := some 84) (v := ?_) (a' := ?_) #[true, true, true, true, true, true, true, true, true, true, false, false, false, false, false, false, false, false] rfl rfl (by kernel_rfl) (fun _ _ _ h => h) (Or.inl ⟨by rfl, ?_⟩) ?_ ?_
  rotate_left
  · intro w'
    go_simp
    with_reducible rfl
  rotate_left
  · simp only [Act.put, List.setIfInBounds_toArray, List.set_cons_zero, List.set_cons_succ, i64_w, i32_w]
    rfl
  refine one_ (i := 10) (N := some 87) #[true, true, true, true, true, true, true, true, true, true, true, false, false, false, false, false, false, false] rfl rfl (by kernel_rfl) (by decide) (fun K hK => ?_)
  rw [if_pos (by rfl)]
  go_simp
  go_at_call 59
  (with_reducible refine (none_c a b _ H3.out _).mono ?_)
  rintro e w1 ⟨rfl, hb⟩
  have F : Fr w w1 [(23, #[.int .i32 a, .int .i32 b]), (23, #[.int .i32 c, .int .i32 d]), (23, #[.int .i32 0, .int .i32 0])] := F.call hb
  obtain ⟨p0, q0, f0, g0⟩ := F.pair0 23 _ _ rfl
  obtain ⟨p1, q1, f1, g1⟩ := F.pair1 23 _ _ rfl
  obtain ⟨p2, q2, f2, g2⟩ := F.pair2 23 _ _ rfl
  refine hK.out _ _ ⟨p0, q0, p1, q1⟩ (fun hHeld => ?_)
  clear hK K
  refine pure_ (i := 11) (N := some 88) (v := ?_) (a' := ?_) #[true, true, true, true, true, true, true, true, true, true, true, true, false, false, false, false, false, false] rfl rfl (by kernel_rfl) (fun _ _ _ h => h) (Or.inl ⟨by rfl, ?_⟩) ?_ ?_
  rotate_left
  · intro w'
    go_simp
    with_reducible rfl
  rotate_left
  · simp only [Act.put, List.setIfInBounds_toArray, List.set_cons_zero, List.set_cons_succ, i64_w, i32_w]
    rfl
  refine pure_ (i := 12) (N := some 89) (v := ?_) (a' := ?_) #[true, true, true, true, true, true, true, true, true, true, true, true, true, false, false, false, false, false] rfl rfl (by kernel_rfl) (fun _ _ _ h => h) (Or.inl ⟨by rfl, ?_⟩) ?_ ?_
  rotate_left
  · intro w'
    go_simp
    with_reducible rfl
  rotate_left
  · simp only [Act.put, List.setIfInBounds_toArray, List.set_cons_zero, List.set_cons_succ, i64_w, i32_w]
    rfl
  refine take_ (i := 13) (N := some 90) (v := ?_) (a' := ?_) #[true, true, true, true, true, true, true, true, true, true, true, true, true, true, false, false, false, false] rfl rfl (by kernel_rfl) (fun _ _ _ h => h) (Or.inl ⟨by rfl, ?_⟩) hHeld ?_ ?_
  rotate_left
  · rintro w' ⟨s0, s1, s2, s3⟩
    go_simp
    with_reducible rfl
  rotate_left
  · simp only [Act.put, List.setIfInBounds_toArray, List.set_cons_zero, List.set_cons_succ, i64_w, i32_w]
    rfl
  refine one_ (i := 14) (N := some 91) #[true, true, true, true, true, true, true, true, true, true, true, true, true, true, true, false, false, false] rfl rfl (by kernel_rfl) (by decide) (fun K hK => ?_)
  rw [if_pos (by rfl)]
  go_simp
  go_at_call 59
  (with_reducible refine (none_c c d _ H4.out _).mono ?_)
  rintro e w1 ⟨rfl, hb⟩
  have F : Fr w w1 [(23, #[.int .i32 a, .int .i32 b]), (23, #[.int .i32 c, .int .i32 d]), (23, #[.int .i32 0, .int .i32 0])] := F.call hb
  obtain ⟨p0, q0, f0, g0⟩ := F.pair0 23 _ _ rfl
  obtain ⟨p1, q1, f1, g1⟩ := F.pair1 23 _ _ rfl
  obtain ⟨p2, q2, f2, g2⟩ := F.pair2 23 _ _ rfl
  refine hK.out _ _ ⟨p0, q0, p1, q1⟩ (fun hHeld => ?_)
  clear hK K
  refine pure_ (i := 15) (N := some 92) (v := ?_) (a' := ?_) #[true, true, true, true, true, true, true, true, true, true, true, true, true, true, true, true, false, false] rfl rfl (by kernel_rfl) (fun _ _ _ h => h) (Or.inl ⟨by rfl, ?_⟩) ?_ ?_
  rotate_left
  · intro w'
    go_simp
    with_reducible rfl
  rotate_left
  · simp only [Act.put, List.setIfInBounds_toArray, List.set_cons_zero, List.set_cons_succ, i64_w, i32_w]
    rfl
  refine one_ (i := 16) (N := some 93) #[true, true, true, true, true, true, true, true, true, true, true, true, true, true, true, true, true, false] rfl rfl (by kernel_rfl) (by decide) (fun K hK => ?_)
  rw [if_pos (by rfl)]
  go_simp
  go_at_call 60
  (with_reducible refine (truth_c _ _ _).mono ?_)
  rintro e w1 ⟨rfl, hb⟩
  have F : Fr w w1 [(23, #[.int .i32 a, .int .i32 b]), (23, #[.int .i32 c, .int .i32 d]), (23, #[.int .i32 0, .int .i32 0])] := F.call hb
  obtain ⟨p0, q0, f0, g0⟩ := F.pair0 23 _ _ rfl
  obtain ⟨p1, q1, f1, g1⟩ := F.pair1 23 _ _ rfl
  obtain ⟨p2, q2, f2, g2⟩ := F.pair2 23 _ _ rfl
  refine hK.out _ _ ⟨p0, q0, p1, q1⟩ (fun hHeld => ?_)
  clear hK K
  refine last_ (i := 17) (N := none) #[true, true, true, true, true, true, true, true, true, true, true, true, true, true, true, true, true, true] rfl rfl (by kernel_rfl) (by decide) (fun K hK => ?_)
  rw [if_pos (by rfl)]
  go_simp
  refine hK.out _ _ ?_
  clear hK K
  refine done_ (by kernel_rfl) ?_
  go_wp2
  have F := F.put2 23 _ _ rfl (.int .i32 ((tru false ny).1)) (.int .i32 ((tru false ny).2))
  exact bodyPost_ret (results_cell_row rfl _ _ (w.heap.size + 1 + 1) 23 #[.int .i32 ((tru false ny).1), .int .i32 ((tru false ny).2)] (0, 0) _ rfl (F.blk2 23 _ rfl) Try.underlying23 rfl (by kernel_rfl)) rfl ⟨rfl, F.below⟩

set_option maxRecDepth 100000 in
set_option maxHeartbeats 4000000 in
theorem decide_23_true_true (a b c d : Int) (sy ny : Bool) (h1 : (!ct a b 0) = true) (h2 : (!ct c d 0) = sy) (h3 : (a == 0 && b == 0) = true) (h4 : (c == 0 && d == 0) = ny) (w : World) : Calls Try.prog 40 #[.int .u8 23, .agg #[.int .i32 a, .int .i32 b], .agg #[.int .i32 c, .int .i32 d]] w fun e w' => e = .returned (.agg #[.int .i32 (tru true ny).1, .int .i32 (tru true ny).2]) ∧ Below w.heap.size w w' := by
  have H1 := Lib.hid h1
  have H2 := Lib.hid h2
  have H3 := Lib.hid h3
  have H4 := Lib.hid h4
  clear h1 h2 h3 h4
  have F := Fr.three w 23 #[.int .i32 a, .int .i32 b] 23 #[.int .i32 c, .int .i32 d] 23 #[.int .i32 0, .int .i32 0]
  go_enter Try.func40, Try.ntmps40
  go_wp2_with (first | (go_at_call 12; ((with_reducible refine (meet_c _ _ _ _ _).mono ?_); rintro e w1 ⟨rfl, hb⟩; have F : Fr w w1 [(23, #[.int .i32 a, .int .i32 b]), (23, #[.int .i32 c, .int .i32 d]), (23, #[.int .i32 0, .int .i32 0])] := (by first | exact F.call hb | exact (F.drewN _).call hb | exact F.drew.call hb | exact (F.alloc _).call hb); obtain ⟨p0, q0, f0, g0⟩ := F.pair0 23 _ _ rfl; obtain ⟨p1, q1, f1, g1⟩ := F.pair1 23 _ _ rfl; obtain ⟨p2, q2, f2, g2⟩ := F.pair2 23 _ _ rfl)) | (go_at_call 17; ((with_reducible refine (isEmpty_c _ _ _).mono ?_); rintro e w1 ⟨rfl, hb⟩; have F : Fr w w1 [(23, #[.int .i32 a, .int .i32 b]), (23, #[.int .i32 c, .int .i32 d]), (23, #[.int .i32 0, .int .i32 0])] := (by first | exact F.call hb | exact (F.drewN _).call hb | exact F.drew.call hb | exact (F.alloc _).call hb); obtain ⟨p0, q0, f0, g0⟩ := F.pair0 23 _ _ rfl; obtain ⟨p1, q1, f1, g1⟩ := F.pair1 23 _ _ rfl; obtain ⟨p2, q2, f2, g2⟩ := F.pair2 23 _ _ rfl)))
  refine start_ (n := 18) (S := fun w' => w'.cell? ⟨w.heap.size, 0, none⟩ = some (.int .i32 a) ∧ w'.cell? ⟨w.heap.size, 1, none⟩ = some (.int .i32 b) ∧ w'.cell? ⟨w.heap.size + 1, 0, none⟩ = some (.int .i32 c) ∧ w'.cell? ⟨w.heap.size + 1, 1, none⟩ = some (.int .i32 d)) (ds := [17]) #[false, false, false, false, false, false, false, false, false, false, false, false, false, false, false, false, false, false] (by kernel_rfl) rfl rfl ⟨p0, q0, p1, q1⟩ (fun hHeld => ?_)
  have F := F.drew
  refine pure_ (i := 0) (N := some 96) (v := ?_) (a' := ?_) #[true, false, false, false, false, false, false, false, false, false, false, false, false, false, false, false, false, false] rfl rfl (by kernel_rfl) (fun _ _ _ h => h) (Or.inl ⟨by rfl, ?_⟩) ?_ ?_
  rotate_left
  · intro w'
    go_simp
    with_reducible rfl
  rotate_left
  · simp only [Act.put, List.setIfInBounds_toArray, List.set_cons_zero, List.set_cons_succ, i64_w, i32_w]
    rfl
  refine pure_ (i := 8) (N := some 104) (v := ?_) (a' := ?_) #[true, false, false, false, false, false, false, false, true, false, false, false, false, false, false, false, false, false] rfl rfl (by kernel_rfl) (fun _ _ _ h => h) (Or.inl ⟨by rfl, ?_⟩) ?_ ?_
  rotate_left
  · intro w'
    go_simp
    with_reducible rfl
  rotate_left
  · simp only [Act.put, List.setIfInBounds_toArray, List.set_cons_zero, List.set_cons_succ, i64_w, i32_w]
    rfl
  refine take_ (i := 1) (N := some 97) (v := ?_) (a' := ?_) #[true, true, false, false, false, false, false, false, true, false, false, false, false, false, false, false, false, false] rfl rfl (by kernel_rfl) (fun _ _ _ h => h) (Or.inl ⟨by rfl, ?_⟩) hHeld ?_ ?_
  rotate_left
  · rintro w' ⟨s0, s1, s2, s3⟩
    go_simp
    with_reducible rfl
  rotate_left
  · simp only [Act.put, List.setIfInBounds_toArray, List.set_cons_zero, List.set_cons_succ, i64_w, i32_w]
    rfl
  refine take_ (i := 9) (N := some 105) (v := ?_) (a' := ?_) #[true, true, false, false, false, false, false, false, true, true, false, false, false, false, false, false, false, false] rfl rfl (by kernel_rfl) (fun _ _ _ h => h) (Or.inl ⟨by rfl, ?_⟩) hHeld ?_ ?_
  rotate_left
  · rintro w' ⟨s0, s1, s2, s3⟩
    go_simp
    with_reducible rfl
  rotate_left
  · simp only [Act.put, List.setIfInBounds_toArray, List.set_cons_zero, List.set_cons_succ, i64_w, i32_w]
    rfl
  refine one_ (i := 2) (N := some 98) #[true, true, true, false, false, false, false, false, true, true, false, false, false, false, false, false, false, false] rfl rfl (by kernel_rfl) (by decide) (fun K hK => ?_)
  rw [if_pos (by rfl)]
  go_simp
  go_at_call 58
  (with_reducible refine (some_c a b _ H1.out _).mono ?_)
  rintro e w1 ⟨rfl, hb⟩
  have F : Fr w w1 [(23, #[.int .i32 a, .int .i32 b]), (23, #[.int .i32 c, .int .i32 d]), (23, #[.int .i32 0, .int .i32 0])] := F.call hb
  obtain ⟨p0, q0, f0, g0⟩ := F.pair0 23 _ _ rfl
  obtain ⟨p1, q1, f1, g1⟩ := F.pair1 23 _ _ rfl
  obtain ⟨p2, q2, f2, g2⟩ := F.pair2 23 _ _ rfl
  refine hK.out _ _ ⟨p0, q0, p1, q1⟩ (fun hHeld => ?_)
  clear hK K
  refine pure_ (i := 3) (N := some 99) (v := ?_) (a' := ?_) #[true, true, true, true, false, false, false, false, true, true, false, false, false, false, false, false, false, false] rfl rfl (by kernel_rfl) (fun _ _ _ h => h) (Or.inl ⟨by rfl, ?_⟩) ?_ ?_
  rotate_left
  · intro w'
    go_simp
    with_reducible rfl
  rotate_left
  · simp only [Act.put, List.setIfInBounds_toArray, List.set_cons_zero, List.set_cons_succ, i64_w, i32_w]
    rfl
  refine pure_ (i := 4) (N := some 100) (v := undef) (a' := ?_) #[true, true, true, true, true, false, false, false, true, true, false, false, false, false, false, false, false, false] rfl rfl (by kernel_rfl) (fun _ _ _ h => h) (Or.inr ⟨by rfl, rfl⟩) ?_ ?_
  rotate_left
  · simp only [Act.put, List.setIfInBounds_toArray, List.set_cons_zero, List.set_cons_succ, i64_w, i32_w]
    rfl
  refine pure_ (i := 5) (N := some 101) (v := undef) (a' := ?_) #[true, true, true, true, true, true, false, false, true, true, false, false, false, false, false, false, false, false] rfl rfl (by kernel_rfl) (fun _ _ _ h => h) (Or.inr ⟨by rfl, rfl⟩) ?_ ?_
  rotate_left
  · simp only [Act.put, List.setIfInBounds_toArray, List.set_cons_zero, List.set_cons_succ, i64_w, i32_w]
    rfl
  refine pure_ (i := 6) (N := some 102) (v := undef) (a' := ?_) #[true, true, true, true, true, true, true, false, true, true, false, false, false, false, false, false, false, false] rfl rfl (by kernel_rfl) (fun _ _ _ h => h) (Or.inr ⟨by rfl, rfl⟩) ?_ ?_
  rotate_left
  · simp only [Act.put, List.setIfInBounds_toArray, List.set_cons_zero, List.set_cons_succ, i64_w, i32_w]
    rfl
  refine pure_ (i := 7) (N := some 103) (v := ?_) (a' := ?_) #[true, true, true, true, true, true, true, true, true, true, false, false, false, false, false, false, false, false] rfl rfl (by kernel_rfl) (fun _ _ _ h => h) (Or.inl ⟨by rfl, ?_⟩) ?_ ?_
  rotate_left
  · intro w'
    go_simp
    with_reducible rfl
  rotate_left
  · simp only [Act.put, List.setIfInBounds_toArray, List.set_cons_zero, List.set_cons_succ, i64_w, i32_w]
    rfl
  refine one_ (i := 10) (N := some 106) #[true, true, true, true, true, true, true, true, true, true, true, false, false, false, false, false, false, false] rfl rfl (by kernel_rfl) (by decide) (fun K hK => ?_)
  rw [if_pos (by rfl)]
  go_simp
  go_at_call 59
  (with_reducible refine (none_c a b _ H3.out _).mono ?_)
  rintro e w1 ⟨rfl, hb⟩
  have F : Fr w w1 [(23, #[.int .i32 a, .int .i32 b]), (23, #[.int .i32 c, .int .i32 d]), (23, #[.int .i32 0, .int .i32 0])] := F.call hb
  obtain ⟨p0, q0, f0, g0⟩ := F.pair0 23 _ _ rfl
  obtain ⟨p1, q1, f1, g1⟩ := F.pair1 23 _ _ rfl
  obtain ⟨p2, q2, f2, g2⟩ := F.pair2 23 _ _ rfl
  refine hK.out _ _ ⟨p0, q0, p1, q1⟩ (fun hHeld => ?_)
  clear hK K
  refine pure_ (i := 11) (N := some 107) (v := ?_) (a' := ?_) #[true, true, true, true, true, true, true, true, true, true, true, true, false, false, false, false, false, false] rfl rfl (by kernel_rfl) (fun _ _ _ h => h) (Or.inl ⟨by rfl, ?_⟩) ?_ ?_
  rotate_left
  · intro w'
    go_simp
    with_reducible rfl
  rotate_left
  · simp only [Act.put, List.setIfInBounds_toArray, List.set_cons_zero, List.set_cons_succ, i64_w, i32_w]
    rfl
  refine pure_ (i := 12) (N := some 108) (v := ?_) (a' := ?_) #[true, true, true, true, true, true, true, true, true, true, true, true, true, false, false, false, false, false] rfl rfl (by kernel_rfl) (fun _ _ _ h => h) (Or.inl ⟨by rfl, ?_⟩) ?_ ?_
  rotate_left
  · intro w'
    go_simp
    with_reducible rfl
  rotate_left
  · simp only [Act.put, List.setIfInBounds_toArray, List.set_cons_zero, List.set_cons_succ, i64_w, i32_w]
    rfl
  refine take_ (i := 13) (N := some 109) (v := ?_) (a' := ?_) #[true, true, true, true, true, true, true, true, true, true, true, true, true, true, false, false, false, false] rfl rfl (by kernel_rfl) (fun _ _ _ h => h) (Or.inl ⟨by rfl, ?_⟩) hHeld ?_ ?_
  rotate_left
  · rintro w' ⟨s0, s1, s2, s3⟩
    go_simp
    with_reducible rfl
  rotate_left
  · simp only [Act.put, List.setIfInBounds_toArray, List.set_cons_zero, List.set_cons_succ, i64_w, i32_w]
    rfl
  refine one_ (i := 14) (N := some 110) #[true, true, true, true, true, true, true, true, true, true, true, true, true, true, true, false, false, false] rfl rfl (by kernel_rfl) (by decide) (fun K hK => ?_)
  rw [if_pos (by rfl)]
  go_simp
  go_at_call 59
  (with_reducible refine (none_c c d _ H4.out _).mono ?_)
  rintro e w1 ⟨rfl, hb⟩
  have F : Fr w w1 [(23, #[.int .i32 a, .int .i32 b]), (23, #[.int .i32 c, .int .i32 d]), (23, #[.int .i32 0, .int .i32 0])] := F.call hb
  obtain ⟨p0, q0, f0, g0⟩ := F.pair0 23 _ _ rfl
  obtain ⟨p1, q1, f1, g1⟩ := F.pair1 23 _ _ rfl
  obtain ⟨p2, q2, f2, g2⟩ := F.pair2 23 _ _ rfl
  refine hK.out _ _ ⟨p0, q0, p1, q1⟩ (fun hHeld => ?_)
  clear hK K
  refine pure_ (i := 15) (N := some 111) (v := ?_) (a' := ?_) #[true, true, true, true, true, true, true, true, true, true, true, true, true, true, true, true, false, false] rfl rfl (by kernel_rfl) (fun _ _ _ h => h) (Or.inl ⟨by rfl, ?_⟩) ?_ ?_
  rotate_left
  · intro w'
    go_simp
    with_reducible rfl
  rotate_left
  · simp only [Act.put, List.setIfInBounds_toArray, List.set_cons_zero, List.set_cons_succ, i64_w, i32_w]
    rfl
  refine one_ (i := 16) (N := some 112) #[true, true, true, true, true, true, true, true, true, true, true, true, true, true, true, true, true, false] rfl rfl (by kernel_rfl) (by decide) (fun K hK => ?_)
  rw [if_pos (by rfl)]
  go_simp
  go_at_call 60
  (with_reducible refine (truth_c _ _ _).mono ?_)
  rintro e w1 ⟨rfl, hb⟩
  have F : Fr w w1 [(23, #[.int .i32 a, .int .i32 b]), (23, #[.int .i32 c, .int .i32 d]), (23, #[.int .i32 0, .int .i32 0])] := F.call hb
  obtain ⟨p0, q0, f0, g0⟩ := F.pair0 23 _ _ rfl
  obtain ⟨p1, q1, f1, g1⟩ := F.pair1 23 _ _ rfl
  obtain ⟨p2, q2, f2, g2⟩ := F.pair2 23 _ _ rfl
  refine hK.out _ _ ⟨p0, q0, p1, q1⟩ (fun hHeld => ?_)
  clear hK K
  refine last_ (i := 17) (N := none) #[true, true, true, true, true, true, true, true, true, true, true, true, true, true, true, true, true, true] rfl rfl (by kernel_rfl) (by decide) (fun K hK => ?_)
  rw [if_pos (by rfl)]
  go_simp
  refine hK.out _ _ ?_
  clear hK K
  refine done_ (by kernel_rfl) ?_
  go_wp2
  have F := F.put2 23 _ _ rfl (.int .i32 ((tru true ny).1)) (.int .i32 ((tru true ny).2))
  exact bodyPost_ret (results_cell_row rfl _ _ (w.heap.size + 1 + 1) 23 #[.int .i32 ((tru true ny).1), .int .i32 ((tru true ny).2)] (0, 0) _ rfl (F.blk2 23 _ rfl) Try.underlying23 rfl (by kernel_rfl)) rfl ⟨rfl, F.below⟩

set_option maxRecDepth 100000 in
set_option maxHeartbeats 4000000 in
theorem decide_23_true_false (a b c d : Int) (sy ny : Bool) (h1 : (!ct a b 0) = true) (h2 : (!ct c d 0) = sy) (h3 : (a == 0 && b == 0) = false) (h4 : (c == 0 && d == 0) = ny) (w : World) : Calls Try.prog 40 #[.int .u8 23, .agg #[.int .i32 a, .int .i32 b], .agg #[.int .i32 c, .int .i32 d]] w fun e w' => e = .returned (.agg #[.int .i32 (tru true false).1, .int .i32 (tru true false).2]) ∧ Below w.heap.size w w' := by
  have H1 := Lib.hid h1
  have H2 := Lib.hid h2
  have H3 := Lib.hid h3
  have H4 := Lib.hid h4
  clear h1 h2 h3 h4
  have F := Fr.three w 23 #[.int .i32 a, .int .i32 b] 23 #[.int .i32 c, .int .i32 d] 23 #[.int .i32 0, .int .i32 0]
  go_enter Try.func40, Try.ntmps40
  go_wp2_with (first | (go_at_call 12; ((with_reducible refine (meet_c _ _ _ _ _).mono ?_); rintro e w1 ⟨rfl, hb⟩; have F : Fr w w1 [(23, #[.int .i32 a, .int .i32 b]), (23, #[.int .i32 c, .int .i32 d]), (23, #[.int .i32 0, .int .i32 0])] := (by first | exact F.call hb | exact (F.drewN _).call hb | exact F.drew.call hb | exact (F.alloc _).call hb); obtain ⟨p0, q0, f0, g0⟩ := F.pair0 23 _ _ rfl; obtain ⟨p1, q1, f1, g1⟩ := F.pair1 23 _ _ rfl; obtain ⟨p2, q2, f2, g2⟩ := F.pair2 23 _ _ rfl)) | (go_at_call 17; ((with_reducible refine (isEmpty_c _ _ _).mono ?_); rintro e w1 ⟨rfl, hb⟩; have F : Fr w w1 [(23, #[.int .i32 a, .int .i32 b]), (23, #[.int .i32 c, .int .i32 d]), (23, #[.int .i32 0, .int .i32 0])] := (by first | exact F.call hb | exact (F.drewN _).call hb | exact F.drew.call hb | exact (F.alloc _).call hb); obtain ⟨p0, q0, f0, g0⟩ := F.pair0 23 _ _ rfl; obtain ⟨p1, q1, f1, g1⟩ := F.pair1 23 _ _ rfl; obtain ⟨p2, q2, f2, g2⟩ := F.pair2 23 _ _ rfl)))
  refine start_ (n := 18) (S := fun w' => w'.cell? ⟨w.heap.size, 0, none⟩ = some (.int .i32 a) ∧ w'.cell? ⟨w.heap.size, 1, none⟩ = some (.int .i32 b) ∧ w'.cell? ⟨w.heap.size + 1, 0, none⟩ = some (.int .i32 c) ∧ w'.cell? ⟨w.heap.size + 1, 1, none⟩ = some (.int .i32 d)) (ds := [17]) #[false, false, false, false, false, false, false, false, false, false, false, false, false, false, false, false, false, false] (by kernel_rfl) rfl rfl ⟨p0, q0, p1, q1⟩ (fun hHeld => ?_)
  have F := F.drew
  refine pure_ (i := 0) (N := some 96) (v := ?_) (a' := ?_) #[true, false, false, false, false, false, false, false, false, false, false, false, false, false, false, false, false, false] rfl rfl (by kernel_rfl) (fun _ _ _ h => h) (Or.inl ⟨by rfl, ?_⟩) ?_ ?_
  rotate_left
  · intro w'
    go_simp
    with_reducible rfl
  rotate_left
  · simp only [Act.put, List.setIfInBounds_toArray, List.set_cons_zero, List.set_cons_succ, i64_w, i32_w]
    rfl
  refine pure_ (i := 8) (N := some 104) (v := ?_) (a' := ?_) #[true, false, false, false, false, false, false, false, true, false, false, false, false, false, false, false, false, false] rfl rfl (by kernel_rfl) (fun _ _ _ h => h) (Or.inl ⟨by rfl, ?_⟩) ?_ ?_
  rotate_left
  · intro w'
    go_simp
    with_reducible rfl
  rotate_left
  · simp only [Act.put, List.setIfInBounds_toArray, List.set_cons_zero, List.set_cons_succ, i64_w, i32_w]
    rfl
  refine take_ (i := 1) (N := some 97) (v := ?_) (a' := ?_) #[true, true, false, false, false, false, false, false, true, false, false, false, false, false, false, false, false, false] rfl rfl (by kernel_rfl) (fun _ _ _ h => h) (Or.inl ⟨by rfl, ?_⟩) hHeld ?_ ?_
  rotate_left
  · rintro w' ⟨s0, s1, s2, s3⟩
    go_simp
    with_reducible rfl
  rotate_left
  · simp only [Act.put, List.setIfInBounds_toArray, List.set_cons_zero, List.set_cons_succ, i64_w, i32_w]
    rfl
  refine take_ (i := 9) (N := some 105) (v := ?_) (a' := ?_) #[true, true, false, false, false, false, false, false, true, true, false, false, false, false, false, false, false, false] rfl rfl (by kernel_rfl) (fun _ _ _ h => h) (Or.inl ⟨by rfl, ?_⟩) hHeld ?_ ?_
  rotate_left
  · rintro w' ⟨s0, s1, s2, s3⟩
    go_simp
    with_reducible rfl
  rotate_left
  · simp only [Act.put, List.setIfInBounds_toArray, List.set_cons_zero, List.set_cons_succ, i64_w, i32_w]
    rfl
  refine one_ (i := 2) (N := some 98) #[true, true, true, false, false, false, false, false, true, true, false, false, false, false, false, false, false, false] rfl rfl (by kernel_rfl) (by decide) (fun K hK => ?_)
  rw [if_pos (by rfl)]
  go_simp
  go_at_call 58
  (with_reducible refine (some_c a b _ H1.out _).mono ?_)
  rintro e w1 ⟨rfl, hb⟩
  have F : Fr w w1 [(23, #[.int .i32 a, .int .i32 b]), (23, #[.int .i32 c, .int .i32 d]), (23, #[.int .i32 0, .int .i32 0])] := F.call hb
  obtain ⟨p0, q0, f0, g0⟩ := F.pair0 23 _ _ rfl
  obtain ⟨p1, q1, f1, g1⟩ := F.pair1 23 _ _ rfl
  obtain ⟨p2, q2, f2, g2⟩ := F.pair2 23 _ _ rfl
  refine hK.out _ _ ⟨p0, q0, p1, q1⟩ (fun hHeld => ?_)
  clear hK K
  refine pure_ (i := 3) (N := some 99) (v := ?_) (a' := ?_) #[true, true, true, true, false, false, false, false, true, true, false, false, false, false, false, false, false, false] rfl rfl (by kernel_rfl) (fun _ _ _ h => h) (Or.inl ⟨by rfl, ?_⟩) ?_ ?_
  rotate_left
  · intro w'
    go_simp
    with_reducible rfl
  rotate_left
  · simp only [Act.put, List.setIfInBounds_toArray, List.set_cons_zero, List.set_cons_succ, i64_w, i32_w]
    rfl
  refine pure_ (i := 4) (N := some 100) (v := undef) (a' := ?_) #[true, true, true, true, true, false, false, false, true, true, false, false, false, false, false, false, false, false] rfl rfl (by kernel_rfl) (fun _ _ _ h => h) (Or.inr ⟨by rfl, rfl⟩) ?_ ?_
  rotate_left
  · simp only [Act.put, List.setIfInBounds_toArray, List.set_cons_zero, List.set_cons_succ, i64_w, i32_w]
    rfl
  refine pure_ (i := 5) (N := some 101) (v := undef) (a' := ?_) #[true, true, true, true, true, true, false, false, true, true, false, false, false, false, false, false, false, false] rfl rfl (by kernel_rfl) (fun _ _ _ h => h) (Or.inr ⟨by rfl, rfl⟩) ?_ ?_
  rotate_left
  · simp only [Act.put, List.setIfInBounds_toArray, List.set_cons_zero, List.set_cons_succ, i64_w, i32_w]
    rfl
  refine pure_ (i := 6) (N := some 102) (v := undef) (a' := ?_) #[true, true, true, true, true, true, true, false, true, true, false, false, false, false, false, false, false, false] rfl rfl (by kernel_rfl) (fun _ _ _ h => h) (Or.inr ⟨by rfl, rfl⟩) ?_ ?_
  rotate_left
  · simp only [Act.put, List.setIfInBounds_toArray, List.set_cons_zero, List.set_cons_succ, i64_w, i32_w]
    rfl
  refine pure_ (i := 7) (N := some 103) (v := ?_) (a' := ?_) #[true, true, true, true, true, true, true, true, true, true, false, false, false, false, false, false, false, false] rfl rfl (by kernel_rfl) (fun _ _ _ h => h) (Or.inl ⟨by rfl, ?_⟩) ?_ ?_
  rotate_left
  · intro w'
    go_simp
    with_reducible rfl
  rotate_left
  · simp only [Act.put, List.setIfInBounds_toArray, List.set_cons_zero, List.set_cons_succ, i64_w, i32_w]
    rfl
  refine one_ (i := 10) (N := some 106) #[true, true, true, true, true, true, true, true, true, true, true, false, false, false, false, false, false, false] rfl rfl (by kernel_rfl) (by decide) (fun K hK => ?_)
  rw [if_pos (by rfl)]
  go_simp
  go_at_call 59
  (with_reducible refine (none_c a b _ H3.out _).mono ?_)
  rintro e w1 ⟨rfl, hb⟩
  have F : Fr w w1 [(23, #[.int .i32 a, .int .i32 b]), (23, #[.int .i32 c, .int .i32 d]), (23, #[.int .i32 0, .int .i32 0])] := F.call hb
  obtain ⟨p0, q0, f0, g0⟩ := F.pair0 23 _ _ rfl
  obtain ⟨p1, q1, f1, g1⟩ := F.pair1 23 _ _ rfl
  obtain ⟨p2, q2, f2, g2⟩ := F.pair2 23 _ _ rfl
  refine hK.out _ _ ⟨p0, q0, p1, q1⟩ (fun hHeld => ?_)
  clear hK K
  refine pure_ (i := 11) (N := some 107) (v := ?_) (a' := ?_) #[true, true, true, true, true, true, true, true, true, true, true, true, false, false, false, false, false, false] rfl rfl (by kernel_rfl) (fun _ _ _ h => h) (Or.inl ⟨by rfl, ?_⟩) ?_ ?_
  rotate_left
  · intro w'
    go_simp
    with_reducible rfl
  rotate_left
  · simp only [Act.put, List.setIfInBounds_toArray, List.set_cons_zero, List.set_cons_succ, i64_w, i32_w]
    rfl
  refine pure_ (i := 12) (N := some 108) (v := undef) (a' := ?_) #[true, true, true, true, true, true, true, true, true, true, true, true, true, false, false, false, false, false] rfl rfl (by kernel_rfl) (fun _ _ _ h => h) (Or.inr ⟨by rfl, rfl⟩) ?_ ?_
  rotate_left
  · simp only [Act.put, List.setIfInBounds_toArray, List.set_cons_zero, List.set_cons_succ, i64_w, i32_w]
    rfl
  refine pure_ (i := 13) (N := some 109) (v := undef) (a' := ?_) #[true, true, true, true, true, true, true, true, true, true, true, true, true, true, false, false, false, false] rfl rfl (by kernel_rfl) (fun _ _ _ h => h) (Or.inr ⟨by rfl, rfl⟩) ?_ ?_
  rotate_left
  · simp only [Act.put, List.setIfInBounds_toArray, List.set_cons_zero, List.set_cons_succ, i64_w, i32_w]
    rfl
  refine pure_ (i := 14) (N := some 110) (v := undef) (a' := ?_) #[true, true, true, true, true, true, true, true, true, true, true, true, true, true, true, false, false, false] rfl rfl (by kernel_rfl) (fun _ _ _ h => h) (Or.inr ⟨by rfl, rfl⟩) ?_ ?_
  rotate_left
  · simp only [Act.put, List.setIfInBounds_toArray, List.set_cons_zero, List.set_cons_succ, i64_w, i32_w]
    rfl
  refine pure_ (i := 15) (N := some 111) (v := ?_) (a' := ?_) #[true, true, true, true, true, true, true, true, true, true, true, true, true, true, true, true, false, false] rfl rfl (by kernel_rfl) (fun _ _ _ h => h) (Or.inl ⟨by rfl, ?_⟩) ?_ ?_
  rotate_left
  · intro w'
    go_simp
    with_reducible rfl
  rotate_left
  · simp only [Act.put, List.setIfInBounds_toArray, List.set_cons_zero, List.set_cons_succ, i64_w, i32_w]
    rfl
  refine one_ (i := 16) (N := some 112) #[true, true, true, true, true, true, true, true, true, true, true, true, true, true, true, true, true, false] rfl rfl (by kernel_rfl) (by decide) (fun K hK => ?_)
  rw [if_pos (by rfl)]
  go_simp
  go_at_call 60
  (with_reducible refine (truth_c _ _ _).mono ?_)
  rintro e w1 ⟨rfl, hb⟩
  have F : Fr w w1 [(23, #[.int .i32 a, .int .i32 b]), (23, #[.int .i32 c, .int .i32 d]), (23, #[.int .i32 0, .int .i32 0])] := F.call hb
  obtain ⟨p0, q0, f0, g0⟩ := F.pair0 23 _ _ rfl
  obtain ⟨p1, q1, f1, g1⟩ := F.pair1 23 _ _ rfl
  obtain ⟨p2, q2, f2, g2⟩ := F.pair2 23 _ _ rfl
  refine hK.out _ _ ⟨p0, q0, p1, q1⟩ (fun hHeld => ?_)
  clear hK K
  refine last_ (i := 17) (N := none) #[true, true, true, true, true, true, true, true, true, true, true, true, true, true, true, true, true, true] rfl rfl (by kernel_rfl) (by decide) (fun K hK => ?_)
  rw [if_pos (by rfl)]
  go_simp
  refine hK.out _ _ ?_
  clear hK K
  refine done_ (by kernel_rfl) ?_
  go_wp2
  have F := F.put2 23 _ _ rfl (.int .i32 ((tru true false).1)) (.int .i32 ((tru true false).2))
  exact bodyPost_ret (results_cell_row rfl _ _ (w.heap.size + 1 + 1) 23 #[.int .i32 ((tru true false).1), .int .i32 ((tru true false).2)] (0, 0) _ rfl (F.blk2 23 _ rfl) Try.underlying23 rfl (by kernel_rfl)) rfl ⟨rfl, F.below⟩

set_option maxRecDepth 100000 in
set_option maxHeartbeats 4000000 in
theorem decide_23_false_true (a b c d : Int) (sy ny : Bool) (h1 : (!ct a b 0) = false) (h2 : (!ct c d 0) = sy) (h3 : (a == 0 && b == 0) = true) (h4 : (c == 0 && d == 0) = ny) (w : World) : Calls Try.prog 40 #[.int .u8 23, .agg #[.int .i32 a, .int .i32 b], .agg #[.int .i32 c, .int .i32 d]] w fun e w' => e = .returned (.agg #[.int .i32 (tru sy ny).1, .int .i32 (tru sy ny).2]) ∧ Below w.heap.size w w' := by
  have H1 := Lib.hid h1
  have H2 := Lib.hid h2
  have H3 := Lib.hid h3
  have H4 := Lib.hid h4
  clear h1 h2 h3 h4
  have F := Fr.three w 23 #[.int .i32 a, .int .i32 b] 23 #[.int .i32 c, .int .i32 d] 23 #[.int .i32 0, .int .i32 0]
  go_enter Try.func40, Try.ntmps40
  go_wp2_with (first | (go_at_call 12; ((with_reducible refine (meet_c _ _ _ _ _).mono ?_); rintro e w1 ⟨rfl, hb⟩; have F : Fr w w1 [(23, #[.int .i32 a, .int .i32 b]), (23, #[.int .i32 c, .int .i32 d]), (23, #[.int .i32 0, .int .i32 0])] := (by first | exact F.call hb | exact (F.drewN _).call hb | exact F.drew.call hb | exact (F.alloc _).call hb); obtain ⟨p0, q0, f0, g0⟩ := F.pair0 23 _ _ rfl; obtain ⟨p1, q1, f1, g1⟩ := F.pair1 23 _ _ rfl; obtain ⟨p2, q2, f2, g2⟩ := F.pair2 23 _ _ rfl)) | (go_at_call 17; ((with_reducible refine (isEmpty_c _ _ _).mono ?_); rintro e w1 ⟨rfl, hb⟩; have F : Fr w w1 [(23, #[.int .i32 a, .int .i32 b]), (23, #[.int .i32 c, .int .i32 d]), (23, #[.int .i32 0, .int .i32 0])] := (by first | exact F.call hb | exact (F.drewN _).call hb | exact F.drew.call hb | exact (F.alloc _).call hb); obtain ⟨p0, q0, f0, g0⟩ := F.pair0 23 _ _ rfl; obtain ⟨p1, q1, f1, g1⟩ := F.pair1 23 _ _ rfl; obtain ⟨p2, q2, f2, g2⟩ := F.pair2 23 _ _ rfl)))
  refine start_ (n := 18) (S := fun w' => w'.cell? ⟨w.heap.size, 0, none⟩ = some (.int .i32 a) ∧ w'.cell? ⟨w.heap.size, 1, none⟩ = some (.int .i32 b) ∧ w'.cell? ⟨w.heap.size + 1, 0, none⟩ = some (.int .i32 c) ∧ w'.cell? ⟨w.heap.size + 1, 1, none⟩ = some (.int .i32 d)) (ds := [17]) #[false, false, false, false, false, false, false, false, false, false, false, false, false, false, false, false, false, false] (by kernel_rfl) rfl rfl ⟨p0, q0, p1, q1⟩ (fun hHeld => ?_)
  have F := F.drew
  refine pure_ (i := 0) (N := some 96) (v := ?_) (a' := ?_) #[true, false, false, false, false, false, false, false, false, false, false, false, false, false, false, false, false, false] rfl rfl (by kernel_rfl) (fun _ _ _ h => h) (Or.inl ⟨by rfl, ?_⟩) ?_ ?_
  rotate_left
  · intro w'
    go_simp
    with_reducible rfl
  rotate_left
  · simp only [Act.put, List.setIfInBounds_toArray, List.set_cons_zero, List.set_cons_succ, i64_w, i32_w]
    rfl
  refine pure_ (i := 8) (N := some 104) (v := ?_) (a' := ?_) #[true, false, false, false, false, false, false, false, true, false, false, false, false, false, false, false, false, false] rfl rfl (by kernel_rfl) (fun _ _ _ h => h) (Or.inl ⟨by rfl, ?_⟩) ?_ ?_
  rotate_left
  · intro w'
    go_simp
    with_reducible rfl
  rotate_left
  · simp only [Act.put, List.setIfInBounds_toArray, List.set_cons_zero, List.set_cons_succ, i64_w, i32_w]
    rfl
  refine take_ (i := 1) (N := some 97) (v := ?_) (a' := ?_) #[true, true, false, false, false, false, false, false, true, false, false, false, false, false, false, false, false, false] rfl rfl (by kernel_rfl) (fun _ _ _ h => h) (Or.inl ⟨by rfl, ?_⟩) hHeld ?_ ?_
  rotate_left
  · rintro w' ⟨s0, s1, s2, s3⟩
    go_simp
    with_reducible rfl
  rotate_left
  · simp only [Act.put, List.setIfInBounds_toArray, List.set_cons_zero, List.set_cons_succ, i64_w, i32_w]
    rfl
  refine take_ (i := 9) (N := some 105) (v := ?_) (a' := ?_) #[true, true, false, false, false, false, false, false, true, true, false, false, false, false, false, false, false, false] rfl rfl (by kernel_rfl) (fun _ _ _ h => h) (Or.inl ⟨by rfl, ?_⟩) hHeld ?_ ?_
  rotate_left
  · rintro w' ⟨s0, s1, s2, s3⟩
    go_simp
    with_reducible rfl
  rotate_left
  · simp only [Act.put, List.setIfInBounds_toArray, List.set_cons_zero, List.set_cons_succ, i64_w, i32_w]
    rfl
  refine one_ (i := 2) (N := some 98) #[true, true, true, false, false, false, false, false, true, true, false, false, false, false, false, false, false, false] rfl rfl (by kernel_rfl) (by decide) (fun K hK => ?_)
  rw [if_pos (by rfl)]
  go_simp
  go_at_call 58
  (with_reducible refine (some_c a b _ H1.out _).mono ?_)
  rintro e w1 ⟨rfl, hb⟩
  have F : Fr w w1 [(23, #[.int .i32 a, .int .i32 b]), (23, #[.int .i32 c, .int .i32 d]), (23, #[.int .i32 0, .int .i32 0])] := F.call hb
  obtain ⟨p0, q0, f0, g0⟩ := F.pair0 23 _ _ rfl
  obtain ⟨p1, q1, f1, g1⟩ := F.pair1 23 _ _ rfl
  obtain ⟨p2, q2, f2, g2⟩ := F.pair2 23 _ _ rfl
  refine hK.out _ _ ⟨p0, q0, p1, q1⟩ (fun hHeld => ?_)
  clear hK K
  refine pure_ (i := 3) (N := some 99) (v := ?_) (a' := ?_) #[true, true, true, true, false, false, false, false, true, true, false, false, false, false, false, false, false, false] rfl rfl (by kernel_rfl) (fun _ _ _ h => h) (Or.inl ⟨by rfl, ?_⟩) ?_ ?_
  rotate_left
  · intro w'
    go_simp
    with_reducible rfl
  rotate_left
  · simp only [Act.put, List.setIfInBounds_toArray, List.set_cons_zero, List.set_cons_succ, i64_w, i32_w]
    rfl
  refine pure_ (i := 4) (N := some 100) (v := ?_) (a' := ?_) #[true, true, true, true, true, false, false, false, true, true, false, false, false, false, false, false, false, false] rfl rfl (by kernel_rfl) (fun _ _ _ h => h) (Or.inl ⟨by rfl, ?_⟩) ?_ ?_
  rotate_left
  · intro w'
    go_simp
    with_reducible rfl
  rotate_left
  · simp only [Act.put, List.setIfInBounds_toArray, List.set_cons_zero, List.set_cons_succ, i64_w, i32_w]
    rfl
  refine take_ (i := 5) (N := some 101) (v := ?_) (a' := ?_) #[true, true, true, true, true, true, false, false, true, true, false, false, false, false, false, false, false, false] rfl rfl (by kernel_rfl) (fun _ _ _ h => h) (Or.inl ⟨by rfl, ?_⟩) hHeld ?_ ?_
  rotate_left
  · rintro w' ⟨s0, s1, s2, s3⟩
    go_simp
    with_reducible rfl
  rotate_left
  · simp only [Act.put, List.setIfInBounds_toArray, List.set_cons_zero, List.set_cons_succ, i64_w, i32_w]
    rfl
  refine one_ (i := 6) (N := some 102) #[true, true, true, true, true, true, true, false, true, true, false, false, false, false, false, false, false, false] rfl rfl (by kernel_rfl) (by decide) (fun K hK => ?_)
  rw [if_pos (by rfl)]
  go_simp
  go_at_call 58
  (with_reducible refine (some_c c d _ H2.out _).mono ?_)
  rintro e w1 ⟨rfl, hb⟩
  have F : Fr w w1 [(23, #[.int .i32 a, .int .i32 b]), (23, #[.int .i32 c, .int .i32 d]), (23, #[.int .i32 0, .int .i32 0])] := F.call hb
  obtain ⟨p0, q0, f0, g0⟩ := F.pair0 23 _ _ rfl
  obtain ⟨p1, q1, f1, g1⟩ := F.pair1 23 _ _ rfl
  obtain ⟨p2, q2, f2, g2⟩ := F.pair2 23 _ _ rfl
  refine hK.out _ _ ⟨p0, q0, p1, q1⟩ (fun hHeld => ?_)
  clear hK K
  refine pure_ (i := 7) (N := some 103) (v := ?_) (a' := ?_) #[true, true, true, true, true, true, true, true, true, true, false, false, false, false, false, false, false, false] rfl rfl (by kernel_rfl) (fun _ _ _ h => h) (Or.inl ⟨by rfl, ?_⟩) ?_ ?_
  rotate_left
  · intro w'
    go_simp
    with_reducible rfl
  rotate_left
  · simp only [Act.put, List.setIfInBounds_toArray, List.set_cons_zero, List.set_cons_succ, i64_w, i32_w]
    rfl
  refine one_ (i := 10) (N := some 106) #[true, true, true, true, true, true, true, true, true, true, true, false, false, false, false, false, false, false] rfl rfl (by kernel_rfl) (by decide) (fun K hK => ?_)
  rw [if_pos (by rfl)]
  go_simp
  go_at_call 59
  (with_reducible refine (none_c a b _ H3.out _).mono ?_)
  rintro e w1 ⟨rfl, hb⟩
  have F : Fr w w1 [(23, #[.int .i32 a, .int .i32 b]), (23, #[.int .i32 c, .int .i32 d]), (23, #[.int .i32 0, .int .i32 0])] := F.call hb
  obtain ⟨p0, q0, f0, g0⟩ := F.pair0 23 _ _ rfl
  obtain ⟨p1, q1, f1, g1⟩ := F.pair1 23 _ _ rfl
  obtain ⟨p2, q2, f2, g2⟩ := F.pair2 23 _ _ rfl
  refine hK.out _ _ ⟨p0, q0, p1, q1⟩ (fun hHeld => ?_)
  clear hK K
  refine pure_ (i := 11) (N := some 107) (v := ?_) (a' := ?_) #[true, true, true, true, true, true, true, true, true, true, true, true, false, false, false, false, false, false] rfl rfl (by kernel_rfl) (fun _ _ _ h => h) (Or.inl ⟨by rfl, ?_⟩) ?_ ?_
  rotate_left
  · intro w'
    go_simp
    with_reducible rfl
  rotate_left
  · simp only [Act.put, List.setIfInBounds_toArray, List.set_cons_zero, List.set_cons_succ, i64_w, i32_w]
    rfl
  refine pure_ (i := 12) (N := some 108) (v := ?_) (a' := ?_) #[true, true, true, true, true, true, true, true, true, true, true, true, true, false, false, false, false, false] rfl rfl (by kernel_rfl) (fun _ _ _ h => h) (Or.inl ⟨by rfl, ?_⟩) ?_ ?_
  rotate_left
  · intro w'
    go_simp
    with_reducible rfl
  rotate_left
  · simp only [Act.put, List.setIfInBounds_toArray, List.set_cons_zero, List.set_cons_succ, i64_w, i32_w]
    rfl
  refine take_ (i := 13) (N := some 109) (v := ?_) (a' := ?_) #[true, true, true, true, true, true, true, true, true, true, true, true, true, true, false, false, false, false] rfl rfl (by kernel_rfl) (fun _ _ _ h => h) (Or.inl ⟨by rfl, ?_⟩) hHeld ?_ ?_
  rotate_left
  · rintro w' ⟨s0, s1, s2, s3⟩
    go_simp
    with_reducible rfl
  rotate_left
  · simp only [Act.put, List.setIfInBounds_toArray, List.set_cons_zero, List.set_cons_succ, i64_w, i32_w]
    rfl
  refine one_ (i := 14) (N := some 110) #[true, true, true, true, true, true, true, true, true, true, true, true, true, true, true, false, false, false] rfl rfl (by kernel_rfl) (by decide) (fun K hK => ?_)
  rw [if_pos (by rfl)]
  go_simp
  go_at_call 59
  (with_reducible refine (none_c c d _ H4.out _).mono ?_)
  rintro e w1 ⟨rfl, hb⟩
  have F : Fr w w1 [(23, #[.int .i32 a, .int .i32 b]), (23, #[.int .i32 c, .int .i32 d]), (23, #[.int .i32 0, .int .i32 0])] := F.call hb
  obtain ⟨p0, q0, f0, g0⟩ := F.pair0 23 _ _ rfl
  obtain ⟨p1, q1, f1, g1⟩ := F.pair1 23 _ _ rfl
  obtain ⟨p2, q2, f2, g2⟩ := F.pair2 23 _ _ rfl
  refine hK.out _ _ ⟨p0, q0, p1, q1⟩ (fun hHeld => ?_)
  clear hK K
  refine pure_ (i := 15) (N := some 111) (v := ?_) (a' := ?_) #[true, true, true, true, true, true, true, true, true, true, true, true, true, true, true, true, false, false] rfl rfl (by kernel_rfl) (fun _ _ _ h => h) (Or.inl ⟨by rfl, ?_⟩) ?_ ?_
  rotate_left
  · intro w'
    go_simp
    with_reducible rfl
  rotate_left
  · simp only [Act.put, List.setIfInBounds_toArray, List.set_cons_zero, List.set_cons_succ, i64_w, i32_w]
    rfl
  refine one_ (i := 16) (N := some 112) #[true, true, true, true, true, true, true, true, true, true, true, true, true, true, true, true, true, false] rfl rfl (by kernel_rfl) (by decide) (fun K hK => ?_)
  rw [if_pos (by rfl)]
  go_simp
  go_at_call 60
  (with_reducible refine (truth_c _ _ _).mono ?_)
  rintro e w1 ⟨rfl, hb⟩
  have F : Fr w w1 [(23, #[.int .i32 a, .int .i32 b]), (23, #[.int .i32 c, .int .i32 d]), (23, #[.int .i32 0, .int .i32 0])] := F.call hb
  obtain ⟨p0, q0, f0, g0⟩ := F.pair0 23 _ _ rfl
  obtain ⟨p1, q1, f1, g1⟩ := F.pair1 23 _ _ rfl
  obtain ⟨p2, q2, f2, g2⟩ := F.pair2 23 _ _ rfl
  refine hK.out _ _ ⟨p0, q0, p1, q1⟩ (fun hHeld => ?_)
  clear hK K
  refine last_ (i := 17) (N := none) #[true, true, true, true, true, true, true, true, true, true, true, true, true, true, true, true, true, true] rfl rfl (by kernel_rfl) (by decide) (fun K hK => ?_)
  rw [if_pos (by rfl)]
  go_simp
  refine hK.out _ _ ?_
  clear hK K
  refine done_ (by kernel_rfl) ?_
  go_wp2
  have F := F.put2 23 _ _ rfl (.int .i32 ((tru sy ny).1)) (.int .i32 ((tru sy ny).2))
  exact bodyPost_ret (results_cell_row rfl _ _ (w.heap.size + 1 + 1) 23 #[.int .i32 ((tru sy ny).1), .int .i32 ((tru sy ny).2)] (0, 0) _ rfl (F.blk2 23 _ rfl) Try.underlying23 rfl (by kernel_rfl)) rfl ⟨rfl, F.below⟩

set_option maxRecDepth 100000 in
set_option maxHeartbeats 4000000 in
theorem decide_23_false_false (a b c d : Int) (sy ny : Bool) (h1 : (!ct a b 0) = false) (h2 : (!ct c d 0) = sy) (h3 : (a == 0 && b == 0) = false) (h4 : (c == 0 && d == 0) = ny) (w : World) : Calls Try.prog 40 #[.int .u8 23, .agg #[.int .i32 a, .int .i32 b], .agg #[.int .i32 c, .int .i32 d]] w fun e w' => e = .returned (.agg #[.int .i32 (tru sy false).1, .int .i32 (tru sy false).2]) ∧ Below w.heap.size w w' := by
  have H1 := Lib.hid h1
  have H2 := Lib.hid h2
  have H3 := Lib.hid h3
  have H4 := Lib.hid h4
  clear h1 h2 h3 h4
  have F := Fr.three w 23 #[.int .i32 a, .int .i32 b] 23 #[.int .i32 c, .int .i32 d] 23 #[.int .i32 0, .int .i32 0]
  go_enter Try.func40, Try.ntmps40
  go_wp2_with (first | (go_at_call 12; ((with_reducible refine (meet_c _ _ _ _ _).mono ?_); rintro e w1 ⟨rfl, hb⟩; have F : Fr w w1 [(23, #[.int .i32 a, .int .i32 b]), (23, #[.int .i32 c, .int .i32 d]), (23, #[.int .i32 0, .int .i32 0])] := (by first | exact F.call hb | exact (F.drewN _).call hb | exact F.drew.call hb | exact (F.alloc _).call hb); obtain ⟨p0, q0, f0, g0⟩ := F.pair0 23 _ _ rfl; obtain ⟨p1, q1, f1, g1⟩ := F.pair1 23 _ _ rfl; obtain ⟨p2, q2, f2, g2⟩ := F.pair2 23 _ _ rfl)) | (go_at_call 17; ((with_reducible refine (isEmpty_c _ _ _).mono ?_); rintro e w1 ⟨rfl, hb⟩; have F : Fr w w1 [(23, #[.int .i32 a, .int .i32 b]), (23, #[.int .i32 c, .int .i32 d]), (23, #[.int .i32 0, .int .i32 0])] := (by first | exact F.call hb | exact (F.drewN _).call hb | exact F.drew.call hb | exact (F.alloc _).call hb); obtain ⟨p0, q0, f0, g0⟩ := F.pair0 23 _ _ rfl; obtain ⟨p1, q1, f1, g1⟩ := F.pair1 23 _ _ rfl; obtain ⟨p2, q2, f2, g2⟩ := F.pair2 23 _ _ rfl)))
  refine start_ (n := 18) (S := fun w' => w'.cell? ⟨w.heap.size, 0, none⟩ = some (.int .i32 a) ∧ w'.cell? ⟨w.heap.size, 1, none⟩ = some (.int .i32 b) ∧ w'.cell? ⟨w.heap.size + 1, 0, none⟩ = some (.int .i32 c) ∧ w'.cell? ⟨w.heap.size + 1, 1, none⟩ = some (.int .i32 d)) (ds := [17]) #[false, false, false, false, false, false, false, false, false, false, false, false, false, false, false, false, false, false] (by kernel_rfl) rfl rfl ⟨p0, q0, p1, q1⟩ (fun hHeld => ?_)
  have F := F.drew
  refine pure_ (i := 0) (N := some 96) (v := ?_) (a' := ?_) #[true, false, false, false, false, false, false, false, false, false, false, false, false, false, false, false, false, false] rfl rfl (by kernel_rfl) (fun _ _ _ h => h) (Or.inl ⟨by rfl, ?_⟩) ?_ ?_
  rotate_left
  · intro w'
    go_simp
    with_reducible rfl
  rotate_left
  · simp only [Act.put, List.setIfInBounds_toArray, List.set_cons_zero, List.set_cons_succ, i64_w, i32_w]
    rfl
  refine pure_ (i := 8) (N := some 104) (v := ?_) (a' := ?_) #[true, false, false, false, false, false, false, false, true, false, false, false, false, false, false, false, false, false] rfl rfl (by kernel_rfl) (fun _ _ _ h => h) (Or.inl ⟨by rfl, ?_⟩) ?_ ?_
  rotate_left
  · intro w'
    go_simp
    with_reducible rfl
  rotate_left
  · simp only [Act.put, List.setIfInBounds_toArray, List.set_cons_zero, List.set_cons_succ, i64_w, i32_w]
    rfl
  refine take_ (i := 1) (N := some 97) (v := ?_) (a' := ?_) #[true, true, false, false, false, false, false, false, true, false, false, false, false, false, false, false, false, false] rfl rfl (by kernel_rfl) (fun _ _ _ h => h) (Or.inl ⟨by rfl, ?_⟩) hHeld ?_ ?_
  rotate_left
  · rintro w' ⟨s0, s1, s2, s3⟩
    go_simp
    with_reducible rfl
  rotate_left
  · simp only [Act.put, List.setIfInBounds_toArray, List.set_cons_zero, List.set_cons_succ, i64_w, i32_w]
    rfl
  refine take_ (i := 9) (N := some 105) (v := ?_) (a' := ?_) #[true, true, false, false, false, false, false, false, true, true, false, false, false, false, false, false, false, false] rfl rfl (by kernel_rfl) (fun _ _ _ h => h) (Or.inl ⟨by rfl, ?_⟩) hHeld ?_ ?_
  rotate_left
  · rintro w' ⟨s0, s1, s2, s3⟩
    go_simp
    with_reducible rfl
  rotate_left
  · simp only [Act.put, List.setIfInBounds_toArray, List.set_cons_zero, List.set_cons_succ, i64_w, i32_w]
    rfl
  refine one_ (i := 2) (N := some 98) #[true, true, true, false, false, false, false, false, true, true, false, false, false, false, false, false, false, false] rfl rfl (by kernel_rfl) (by decide) (fun K hK => ?_)
  rw [if_pos (by rfl)]
  go_simp
  go_at_call 58
  (with_reducible refine (some_c a b _ H1.out _).mono ?_)
  rintro e w1 ⟨rfl, hb⟩
  have F : Fr w w1 [(23, #[.int .i32 a, .int .i32 b]), (23, #[.int .i32 c, .int .i32 d]), (23, #[.int .i32 0, .int .i32 0])] := F.call hb
  obtain ⟨p0, q0, f0, g0⟩ := F.pair0 23 _ _ rfl
  obtain ⟨p1, q1, f1, g1⟩ := F.pair1 23 _ _ rfl
  obtain ⟨p2, q2, f2, g2⟩ := F.pair2 23 _ _ rfl
  refine hK.out _ _ ⟨p0, q0, p1, q1⟩ (fun hHeld => ?_)
  clear hK K
  refine pure_ (i := 3) (N := some 99) (v := ?_) (a' := ?_) #[true, true, true, true, false, false, false, false, true, true, false, false, false, false, false, false, false, false] rfl rfl (by kernel_rfl) (fun _ _ _ h => h) (Or.inl ⟨by rfl, ?_⟩) ?_ ?_
  rotate_left
  · intro w'
    go_simp
    with_reducible rfl
  rotate_left
  · simp only [Act.put, List.setIfInBounds_toArray, List.set_cons_zero, List.set_cons_succ, i64_w, i32_w]
    rfl
  refine pure_ (i := 4) (N := some 100) (v := ?_) (a' := ?_) #[true, true, true, true, true, false, false, false, true, true, false, false, false, false, false, false, false, false] rfl rfl (by kernel_rfl) (fun _ _ _ h => h) (Or.inl ⟨by rfl, ?_⟩) ?_ ?_
  rotate_left
  · intro w'
    go_simp
    with_reducible rfl
  rotate_left
  · simp only [Act.put, List.setIfInBounds_toArray, List.set_cons_zero, List.set_cons_succ, i64_w, i32_w]
    rfl
  refine take_ (i := 5) (N := some 101) (v := ?_) (a' := ?_) #[true, true, true, true, true, true, false, false, true, true, false, false, false, false, false, false, false, false] rfl rfl (by kernel_rfl) (fun _ _ _ h => h) (Or.inl ⟨by rfl, ?_⟩) hHeld ?_ ?_
  rotate_left
  · rintro w' ⟨s0, s1, s2, s3⟩
    go_simp
    with_reducible rfl
  rotate_left
  · simp only [Act.put, List.setIfInBounds_toArray, List.set_cons_zero, List.set_cons_succ, i64_w, i32_w]
    rfl
  refine one_ (i := 6) (N := some 102) #[true, true, true, true, true, true, true, false, true, true, false, false, false, false, false, false, false, false] rfl rfl (by kernel_rfl) (by decide) (fun K hK => ?_)
  rw [if_pos (by rfl)]
  go_simp
  go_at_call 58
  (with_reducible refine (some_c c d _ H2.out _).mono ?_)
  rintro e w1 ⟨rfl, hb⟩
  have F : Fr w w1 [(23, #[.int .i32 a, .int .i32 b]), (23, #[.int .i32 c, .int .i32 d]), (23, #[.int .i32 0, .int .i32 0])] := F.call hb
  obtain ⟨p0, q0, f0, g0⟩ := F.pair0 23 _ _ rfl
  obtain ⟨p1, q1, f1, g1⟩ := F.pair1 23 _ _ rfl
  obtain ⟨p2, q2, f2, g2⟩ := F.pair2 23 _ _ rfl
  refine hK.out _ _ ⟨p0, q0, p1, q1⟩ (fun hHeld => ?_)
  clear hK K
  refine pure_ (i := 7) (N := some 103) (v := ?_) (a' := ?_) #[true, true, true, true, true, true, true, true, true, true, false, false, false, false, false, false, false, false] rfl rfl (by kernel_rfl) (fun _ _ _ h => h) (Or.inl ⟨by rfl, ?_⟩) ?_ ?_
  rotate_left
  · intro w'
    go_simp
    with_reducible rfl
  rotate_left
  · simp only [Act.put, List.setIfInBounds_toArray, List.set_cons_zero, List.set_cons_succ, i64_w, i32_w]
    rfl
  refine one_ (i := 10) (N := some 106) #[true, true, true, true, true, true, true, true, true, true, true, false, false, false, false, false, false, false] rfl rfl (by kernel_rfl) (by decide) (fun K hK => ?_)
  rw [if_pos (by rfl)]
  go_simp
  go_at_call 59
  (with_reducible refine (none_c a b _ H3.out _).mono ?_)
  rintro e w1 ⟨rfl, hb⟩
  have F : Fr w w1 [(23, #[.int .i32 a, .int .i32 b]), (23, #[.int .i32 c, .int .i32 d]), (23, #[.int .i32 0, .int .i32 0])] := F.call hb
  obtain ⟨p0, q0, f0, g0⟩ := F.pair0 23 _ _ rfl
  obtain ⟨p1, q1, f1, g1⟩ := F.pair1 23 _ _ rfl
  obtain ⟨p2, q2, f2, g2⟩ := F.pair2 23 _ _ rfl
  refine hK.out _ _ ⟨p0, q0, p1, q1⟩ (fun hHeld => ?_)
  clear hK K
  refine pure_ (i := 11) (N := some 107) (v := ?_) (a' := ?_) #[true, true, true, true, true, true, true, true, true, true, true, true, false, false, false, false, false, false] rfl rfl (by kernel_rfl) (fun _ _ _ h => h) (Or.inl ⟨by rfl, ?_⟩) ?_ ?_
  rotate_left
  · intro w'
    go_simp
    with_reducible rfl
  rotate_left
  · simp only [Act.put, List.setIfInBounds_toArray, List.set_cons_zero, List.set_cons_succ, i64_w, i32_w]
    rfl
  refine pure_ (i := 12) (N := some 108) (v := undef) (a' := ?_) #[true, true, true, true, true, true, true, true, true, true, true, true, true, false, false, false, false, false] rfl rfl (by kernel_rfl) (fun _ _ _ h => h) (Or.inr ⟨by rfl, rfl⟩) ?_ ?_
  rotate_left
  · simp only [Act.put, List.setIfInBounds_toArray, List.set_cons_zero, List.set_cons_succ, i64_w, i32_w]
    rfl
  refine pure_ (i := 13) (N := some 109) (v := undef) (a' := ?_) #[true, true, true, true, true, true, true, true, true, true, true, true, true, true, false, false, false, false] rfl rfl (by kernel_rfl) (fun _ _ _ h => h) (Or.inr ⟨by rfl, rfl⟩) ?_ ?_
  rotate_left
  · simp only [Act.put, List.setIfInBounds_toArray, List.set_cons_zero, List.set_cons_succ, i64_w, i32_w]
    rfl
  refine pure_ (i := 14) (N := some 110) (v := undef) (a' := ?_) #[true, true, true, true, true, true, true, true, true, true, true, true, true, true, true, false, false, false] rfl rfl (by kernel_rfl) (fun _ _ _ h => h) (Or.inr ⟨by rfl, rfl⟩) ?_ ?_
  rotate_left
  · simp only [Act.put, List.setIfInBounds_toArray, List.set_cons_zero, List.set_cons_succ, i64_w, i32_w]
    rfl
  refine pure_ (i := 15) (N := some 111) (v := ?_) (a' := ?_) #[true, true, true, true, true, true, true, true, true, true, true, true, true, true, true, true, false, false] rfl rfl (by kernel_rfl) (fun _ _ _ h => h) (Or.inl ⟨by rfl, ?_⟩) ?_ ?_
  rotate_left
  · intro w'
    go_simp
    with_reducible rfl
  rotate_left
  · simp only [Act.put, List.setIfInBounds_toArray, List.set_cons_zero, List.set_cons_succ, i64_w, i32_w]
    rfl
  refine one_ (i := 16) (N := some 112) #[true, true, true, true, true, true, true, true, true, true, true, true, true, true, true, true, true, false] rfl rfl (by kernel_rfl) (by decide) (fun K hK => ?_)
  rw [if_pos (by rfl)]
  go_simp
  go_at_call 60
  (with_reducible refine (truth_c _ _ _).mono ?_)
  rintro e w1 ⟨rfl, hb⟩
  have F : Fr w w1 [(23, #[.int .i32 a, .int .i32 b]), (23, #[.int .i32 c, .int .i32 d]), (23, #[.int .i32 0, .int .i32 0])] := F.call hb
  obtain ⟨p0, q0, f0, g0⟩ := F.pair0 23 _ _ rfl
  obtain ⟨p1, q1, f1, g1⟩ := F.pair1 23 _ _ rfl
  obtain ⟨p2, q2, f2, g2⟩ := F.pair2 23 _ _ rfl
  refine hK.out _ _ ⟨p0, q0, p1, q1⟩ (fun hHeld => ?_)
  clear hK K
  refine last_ (i := 17) (N := none) #[true, true, true, true, true, true, true, true, true, true, true, true, true, true, true, true, true, true] rfl rfl (by kernel_rfl) (by decide) (fun K hK => ?_)
  rw [if_pos (by rfl)]
  go_simp
  refine hK.out _ _ ?_
  clear hK K
  refine done_ (by kernel_rfl) ?_
  go_wp2
  have F := F.put2 23 _ _ rfl (.int .i32 ((tru sy false).1)) (.int .i32 ((tru sy false).2))
  exact bodyPost_ret (results_cell_row rfl _ _ (w.heap.size + 1 + 1) 23 #[.int .i32 ((tru sy false).1), .int .i32 ((tru sy false).2)] (0, 0) _ rfl (F.blk2 23 _ rfl) Try.underlying23 rfl (by kernel_rfl)) rfl ⟨rfl, F.below⟩

theorem decide_c (k a b c d : Int) (w : World) : Calls Try.prog 40 #[.int .u8 k, .agg #[.int .i32 a, .int .i32 b], .agg #[.int .i32 c, .int .i32 d]] w fun e w' => e = .returned (.agg #[.int .i32 (dec k a b c d).1, .int .i32 (dec k a b c d).2]) ∧ Below w.heap.size w w' := by
  by_cases h : k < 16 ∨ 23 < k
  · have e : dec k a b c d = (-2147483648, 2147483647) := by
      unfold dec
      rw [if_neg (by omega), if_neg (by omega), if_neg (by omega), if_neg (by omega), if_neg (by omega), if_neg (by omega), if_neg (by omega), if_neg (by omega)]
    rw [e]
    exact decide_other k a b c d h w
  have hk : k = 16 ∨ k = 17 ∨ k = 18 ∨ k = 19 ∨ k = 20 ∨ k = 21 ∨ k = 22 ∨ k = 23 := by omega
  rcases hk with rfl | rfl | rfl | rfl | rfl | rfl | rfl | rfl
  · exact decide_16 a b c d w
  · exact decide_17 a b c d w
  · exact decide_18 a b c d w
  · exact decide_19 a b c d w
  · exact decide_20 a b c d w
  · exact decide_21 a b c d w
  · cases h1 : (!ct a b 0)
    · cases h3 : (a == 0 && b == 0)
      · have e : dec 22 a b c d = tru ((!ct a b 0) && (!ct c d 0)) ((a == 0 && b == 0) || (c == 0 && d == 0)) := rfl
        rw [e, h1, h3]
        exact decide_22_false_false a b c d _ _ h1 rfl h3 rfl w
      · have e : dec 22 a b c d = tru ((!ct a b 0) && (!ct c d 0)) ((a == 0 && b == 0) || (c == 0 && d == 0)) := rfl
        rw [e, h1, h3]
        exact decide_22_false_true a b c d _ _ h1 rfl h3 rfl w
    · cases h3 : (a == 0 && b == 0)
      · have e : dec 22 a b c d = tru ((!ct a b 0) && (!ct c d 0)) ((a == 0 && b == 0) || (c == 0 && d == 0)) := rfl
        rw [e, h1, h3]
        exact decide_22_true_false a b c d _ _ h1 rfl h3 rfl w
      · have e : dec 22 a b c d = tru ((!ct a b 0) && (!ct c d 0)) ((a == 0 && b == 0) || (c == 0 && d == 0)) := rfl
        rw [e, h1, h3]
        exact decide_22_true_true a b c d _ _ h1 rfl h3 rfl w
  · cases h1 : (!ct a b 0)
    · cases h3 : (a == 0 && b == 0)
      · have e : dec 23 a b c d = tru ((!ct a b 0) || (!ct c d 0)) ((a == 0 && b == 0) && (c == 0 && d == 0)) := rfl
        rw [e, h1, h3]
        exact decide_23_false_false a b c d _ _ h1 rfl h3 rfl w
      · have e : dec 23 a b c d = tru ((!ct a b 0) || (!ct c d 0)) ((a == 0 && b == 0) && (c == 0 && d == 0)) := rfl
        rw [e, h1, h3]
        exact decide_23_false_true a b c d _ _ h1 rfl h3 rfl w
    · cases h3 : (a == 0 && b == 0)
      · have e : dec 23 a b c d = tru ((!ct a b 0) || (!ct c d 0)) ((a == 0 && b == 0) && (c == 0 && d == 0)) := rfl
        rw [e, h1, h3]
        exact decide_23_true_false a b c d _ _ h1 rfl h3 rfl w
      · have e : dec 23 a b c d = tru ((!ct a b 0) || (!ct c d 0)) ((a == 0 && b == 0) && (c == 0 && d == 0)) := rfl
        rw [e, h1, h3]
        exact decide_23_true_true a b c d _ _ h1 rfl h3 rfl w

end Go.Proofs.Ytcchelfopbgolaa.Decide
