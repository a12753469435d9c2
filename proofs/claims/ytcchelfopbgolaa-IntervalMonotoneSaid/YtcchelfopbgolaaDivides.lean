/- The contract of interval.divide. Conditions: as each theorem says. -/
import Derived.Test.YtcchelfopbgolaaDivide
namespace Go.Proofs.Ytcchelfopbgolaa.Divides
open Go.RowKit Go.Proofs.Ytcchelfopbgolaa.PIntervalSets Go.Proofs.YtcchelfopbgolaaW.PrintWords Go.Proofs.YtcchelfopbgolaaW.PrintLast Go.Proofs.YtcchelfopbgolaaW.PrintMore
open Go.Proofs.YtcchelfopbgolaaPlain Base Blocks Small Corners Divide
set_option linter.unusedSimpArgs false
set_option linter.unusedVariables false

set_option maxRecDepth 100000 in
theorem div_zero (a b : Int) (w : World) : Calls Try.prog 33 #[.agg #[.int .i32 a, .int .i32 b], .agg #[.int .i32 0, .int .i32 0]] w fun e w' => e = .returned (.agg #[.int .i32 1, .int .i32 0]) ∧ Below w.heap.size w w' := by
  have F := Fr.three w 23 #[.int .i32 a, .int .i32 b] 23 #[.int .i32 0, .int .i32 0] 23 #[.int .i32 0, .int .i32 0]
  obtain ⟨p0, q0, f0, g0⟩ := F.pair0 23 _ _ rfl; obtain ⟨p1, q1, f1, g1⟩ := F.pair1 23 _ _ rfl; obtain ⟨p2, q2, f2, g2⟩ := F.pair2 23 _ _ rfl
  have hu23 := Try.underlying23
  go_enter Try.func33, Try.ntmps33
  go_wp2_with fail
  go_region_held3 (fun w' => w'.cell? ⟨w.heap.size + 1, 0, none⟩ = some (.int .i32 0) ∧ w'.cell? ⟨w.heap.size + 1, 1, none⟩ = some (.int .i32 0))
    (first | go_keep | exact ⟨p1, q1⟩)
    (first | (go_at_call 27; ((with_reducible refine (of_c _ _).mono ?_); rintro e w1 ⟨rfl, hb⟩; have F : Fr w w1 [(23, #[.int .i32 a, .int .i32 b]), (23, #[.int .i32 0, .int .i32 0]), (23, #[.int .i32 0, .int .i32 0])] := (by first | exact F.call hb | exact (F.drewN _).call hb | exact F.drew.call hb | exact (F.alloc _).call hb); obtain ⟨p0, q0, f0, g0⟩ := F.pair0 23 _ _ rfl; obtain ⟨p1, q1, f1, g1⟩ := F.pair1 23 _ _ rfl; obtain ⟨p2, q2, f2, g2⟩ := F.pair2 23 _ _ rfl)))
  go_wp2_with (first | (go_at_call 18; ((with_reducible refine (empty_c _).mono ?_); rintro e w1 ⟨rfl, hb⟩; have F : Fr w w1 [(23, #[.int .i32 a, .int .i32 b]), (23, #[.int .i32 0, .int .i32 0]), (23, #[.int .i32 0, .int .i32 0])] := (by first | exact F.call hb | exact (F.drewN _).call hb | exact F.drew.call hb | exact (F.alloc _).call hb); obtain ⟨p0, q0, f0, g0⟩ := F.pair0 23 _ _ rfl; obtain ⟨p1, q1, f1, g1⟩ := F.pair1 23 _ _ rfl; obtain ⟨p2, q2, f2, g2⟩ := F.pair2 23 _ _ rfl)))
  have F := F.put2 23 _ _ rfl (.int .i32 1) (.int .i32 0)
  exact bodyPost_ret (results_cell_row rfl _ _ (w.heap.size + 1 + 1) 23 #[.int .i32 1, .int .i32 0] (0, 0) _ rfl (F.blk2 23 _ rfl) Try.underlying23 rfl (by kernel_rfl)) rfl ⟨rfl, F.below⟩

set_option maxRecDepth 100000 in
set_option maxHeartbeats 8000000 in
theorem div_both (a b c d mm1 mm2 nn1 nn2 k1 k2 j1 j2 l1 l2 r1 r2 : Int) (c0 : (c == 0) = false) (x1 : Bool) (hf1 : ct a b (-2147483648) = x1) (hf2 : (x1 && ct c d (-1)) = false) (hm : ∀ w, Calls Try.prog 12 #[.agg #[.int .i32 c, .int .i32 d], .agg #[.int .i32 (-2147483648), .int .i32 (-1)]] w fun e w' => e = .returned (.agg #[.int .i32 mm1, .int .i32 mm2]) ∧ Below w.heap.size w w') (hq : ∀ w, Calls Try.prog 12 #[.agg #[.int .i32 c, .int .i32 d], .agg #[.int .i32 1, .int .i32 2147483647]] w fun e w' => e = .returned (.agg #[.int .i32 nn1, .int .i32 nn2]) ∧ Below w.heap.size w w') (em : decide (mm1 > mm2) = false) (eq : decide (nn1 > nn2) = false) (hc1 : ∀ w, Calls Try.prog 29 #[.agg #[.int .i32 a, .int .i32 b], .agg #[.int .i32 mm1, .int .i32 mm2], .func (Fn.func 56) #[] #[]] w fun e w' => e = .returned (.agg #[.int .i32 k1, .int .i32 k2]) ∧ Below w.heap.size w w') (hj1 : ∀ w, Calls Try.prog 11 #[.agg #[.int .i32 1, .int .i32 0], .agg #[.int .i32 k1, .int .i32 k2]] w fun e w' => e = .returned (.agg #[.int .i32 j1, .int .i32 j2]) ∧ Below w.heap.size w w') (hc2 : ∀ w, Calls Try.prog 29 #[.agg #[.int .i32 a, .int .i32 b], .agg #[.int .i32 nn1, .int .i32 nn2], .func (Fn.func 56) #[] #[]] w fun e w' => e = .returned (.agg #[.int .i32 l1, .int .i32 l2]) ∧ Below w.heap.size w w') (hj2 : ∀ w, Calls Try.prog 11 #[.agg #[.int .i32 j1, .int .i32 j2], .agg #[.int .i32 l1, .int .i32 l2]] w fun e w' => e = .returned (.agg #[.int .i32 r1, .int .i32 r2]) ∧ Below w.heap.size w w') (w : World) :
    Calls Try.prog 33 #[.agg #[.int .i32 a, .int .i32 b], .agg #[.int .i32 c, .int .i32 d]] w fun e w' => e = .returned (.agg #[.int .i32 r1, .int .i32 r2]) ∧ Below w.heap.size w w' := by
  have HM := Lib.hid hm
  have HQ := Lib.hid hq
  have EM := Lib.hid em
  have EQ := Lib.hid eq
  have HC1 := Lib.hid hc1
  have HJ1 := Lib.hid hj1
  have HC2 := Lib.hid hc2
  have HJ2 := Lib.hid hj2
  clear hm hq em eq hc1 hj1 hc2 hj2
  have F := Fr.three w 23 #[.int .i32 a, .int .i32 b] 23 #[.int .i32 c, .int .i32 d] 23 #[.int .i32 0, .int .i32 0]
  obtain ⟨p0, q0, f0, g0⟩ := F.pair0 23 _ _ rfl; obtain ⟨p1, q1, f1, g1⟩ := F.pair1 23 _ _ rfl; obtain ⟨p2, q2, f2, g2⟩ := F.pair2 23 _ _ rfl
  have hu23 := Try.underlying23
  cases x1 with
  | false =>
    have HF1 := Lib.hid hf1
    clear hf1 hf2
    go_enter Try.func33, Try.ntmps33
    go_wp2_with fail
    go_region_held3 (fun w' => w'.cell? ⟨w.heap.size + 1, 0, none⟩ = some (.int .i32 c) ∧ w'.cell? ⟨w.heap.size + 1, 1, none⟩ = some (.int .i32 d))
      (first | go_keep | exact ⟨p1, q1⟩)
      (first | (go_at_call 27; ((with_reducible refine (of_c _ _).mono ?_); rintro e w1 ⟨rfl, hb⟩; have F : Fr w w1 [(23, #[.int .i32 a, .int .i32 b]), (23, #[.int .i32 c, .int .i32 d]), (23, #[.int .i32 0, .int .i32 0])] := (by first | exact F.call hb | exact (F.drewN _).call hb | exact F.drew.call hb | exact (F.alloc _).call hb); obtain ⟨p0, q0, f0, g0⟩ := F.pair0 23 _ _ rfl; obtain ⟨p1, q1, f1, g1⟩ := F.pair1 23 _ _ rfl; obtain ⟨p2, q2, f2, g2⟩ := F.pair2 23 _ _ rfl)))
    go_wp2_with (first | (go_at_call 15; ((with_reducible refine (contains_r a b (-2147483648) _ HF1.out _).mono ?_); rintro e w1 ⟨rfl, hb⟩; have F : Fr w w1 [(23, #[.int .i32 a, .int .i32 b]), (23, #[.int .i32 c, .int .i32 d]), (23, #[.int .i32 0, .int .i32 0])] := (by first | exact F.call hb | exact (F.drewN _).call hb | exact F.drew.call hb | exact (F.alloc _).call hb); obtain ⟨p0, q0, f0, g0⟩ := F.pair0 23 _ _ rfl; obtain ⟨p1, q1, f1, g1⟩ := F.pair1 23 _ _ rfl; obtain ⟨p2, q2, f2, g2⟩ := F.pair2 23 _ _ rfl)) | (go_at_call 18; ((with_reducible refine (empty_c _).mono ?_); rintro e w6 ⟨rfl, hb⟩; have F : Fr w w6 [(23, #[.int .i32 a, .int .i32 b]), (23, #[.int .i32 c, .int .i32 d]), (23, #[.int .i32 0, .int .i32 0])] := (by first | exact F.call hb | exact (F.drewN _).call hb | exact F.drew.call hb | exact (F.alloc _).call hb); obtain ⟨p0, q0, f0, g0⟩ := F.pair0 23 _ _ rfl; obtain ⟨p1, q1, f1, g1⟩ := F.pair1 23 _ _ rfl; obtain ⟨p2, q2, f2, g2⟩ := F.pair2 23 _ _ rfl)))
    have hsz : w.heap.size + 2 < w6.heap.size := F.size 2 _ rfl
    have G := Fr.one w6 23 #[.int .i32 1, .int .i32 0]
    have F := F.alloc (.cells #[.int .i32 1, .int .i32 0] 23 (0, 0))
    obtain ⟨p0, q0, f0, g0⟩ := F.pair0 23 _ _ rfl; obtain ⟨p1, q1, f1, g1⟩ := F.pair1 23 _ _ rfl; obtain ⟨p2, q2, f2, g2⟩ := F.pair2 23 _ _ rfl
    obtain ⟨gp0, gq0, gf0, gg0⟩ := G.pair0 23 _ _ rfl
    go_region_held3 (fun w' => w'.cell? ⟨w.heap.size + 1, 0, none⟩ = some (.int .i32 c) ∧ w'.cell? ⟨w.heap.size + 1, 1, none⟩ = some (.int .i32 d))
      (first | go_keep | exact ⟨p1, q1⟩)
      (first | (go_at_call 12; ((with_reducible refine (HM.out _).mono ?_); rintro e w7 ⟨rfl, hb⟩; have F : Fr w w7 [(23, #[.int .i32 a, .int .i32 b]), (23, #[.int .i32 c, .int .i32 d]), (23, #[.int .i32 0, .int .i32 0])] := (by first | exact F.call hb | exact F.drew.call hb | exact (F.drewN _).call hb | exact (F.alloc _).call hb | exact (F.alloc _).drew.call hb); have G : Fr w6 w7 [(23, #[.int .i32 1, .int .i32 0])] := (by first | exact G.call hb | exact G.drew.call hb | exact (G.drewN _).call hb | exact (G.alloc _).call hb | exact (G.alloc _).drew.call hb); obtain ⟨p0, q0, f0, g0⟩ := F.pair0 23 _ _ rfl; obtain ⟨p1, q1, f1, g1⟩ := F.pair1 23 _ _ rfl; obtain ⟨p2, q2, f2, g2⟩ := F.pair2 23 _ _ rfl; obtain ⟨gp0, gq0, gf0, gg0⟩ := G.pair0 23 _ _ rfl)) | (go_at_call 12; ((with_reducible refine (HQ.out _).mono ?_); rintro e w7 ⟨rfl, hb⟩; have F : Fr w w7 [(23, #[.int .i32 a, .int .i32 b]), (23, #[.int .i32 c, .int .i32 d]), (23, #[.int .i32 0, .int .i32 0])] := (by first | exact F.call hb | exact F.drew.call hb | exact (F.drewN _).call hb | exact (F.alloc _).call hb | exact (F.alloc _).drew.call hb); have G : Fr w6 w7 [(23, #[.int .i32 1, .int .i32 0])] := (by first | exact G.call hb | exact G.drew.call hb | exact (G.drewN _).call hb | exact (G.alloc _).call hb | exact (G.alloc _).drew.call hb); obtain ⟨p0, q0, f0, g0⟩ := F.pair0 23 _ _ rfl; obtain ⟨p1, q1, f1, g1⟩ := F.pair1 23 _ _ rfl; obtain ⟨p2, q2, f2, g2⟩ := F.pair2 23 _ _ rfl; obtain ⟨gp0, gq0, gf0, gg0⟩ := G.pair0 23 _ _ rfl)))
    have i0 : ∀ w, (Instr.index 66 (.agg #[.int .i32 mm1, .int .i32 mm2, .int .i32 nn1, .int .i32 nn2]) (.int .i64 0)).run Try.prog w = .ok (.agg #[.int .i32 mm1, .int .i32 mm2]) w := fun _ => by kernel_rfl
    have i1 : ∀ w, (Instr.index 66 (.agg #[.int .i32 mm1, .int .i32 mm2, .int .i32 nn1, .int .i32 nn2]) (.int .i64 1)).run Try.prog w = .ok (.agg #[.int .i32 nn1, .int .i32 nn2]) w := fun _ => by kernel_rfl
    go_wp2
    refine wp_loop_rounds 3 ?_
    have H := Fr.one w7 23 #[.int .i32 mm1, .int .i32 mm2]
    have F := F.alloc (.cells #[.int .i32 mm1, .int .i32 mm2] 23 (0, 0))
    have G := G.alloc (.cells #[.int .i32 mm1, .int .i32 mm2] 23 (0, 0))
    rw [rounds_succ]
    go_wp2_with (first | (go_at_call 17; ((with_reducible refine (isEmpty_r _ _ _ EM.out _).mono ?_); rintro e w8a ⟨rfl, hb⟩; have F : Fr w w8a [(23, #[.int .i32 a, .int .i32 b]), (23, #[.int .i32 c, .int .i32 d]), (23, #[.int .i32 0, .int .i32 0])] := (by first | exact F.call hb | exact F.drew.call hb | exact (F.drewN _).call hb | exact (F.alloc _).call hb | exact (F.alloc _).drew.call hb); have G : Fr w6 w8a [(23, #[.int .i32 1, .int .i32 0])] := (by first | exact G.call hb | exact G.drew.call hb | exact (G.drewN _).call hb | exact (G.alloc _).call hb | exact (G.alloc _).drew.call hb); have H : Fr w7 w8a [(23, #[.int .i32 mm1, .int .i32 mm2])] := (by first | exact H.call hb | exact H.drew.call hb | exact (H.drewN _).call hb | exact (H.alloc _).call hb | exact (H.alloc _).drew.call hb); obtain ⟨p0, q0, f0, g0⟩ := F.pair0 23 _ _ rfl; obtain ⟨p1, q1, f1, g1⟩ := F.pair1 23 _ _ rfl; obtain ⟨p2, q2, f2, g2⟩ := F.pair2 23 _ _ rfl; obtain ⟨gp0, gq0, gf0, gg0⟩ := G.pair0 23 _ _ rfl; obtain ⟨hp0, hq0, hf0, hg0⟩ := H.pair0 23 _ _ rfl)))
    refine start_ (n := 7) (S := fun w' => w'.cell? ⟨w6.heap.size, 0, none⟩ = some (.int .i32 1) ∧ w'.cell? ⟨w6.heap.size, 1, none⟩ = some (.int .i32 0) ∧ w'.cell? ⟨w.heap.size, 0, none⟩ = some (.int .i32 a) ∧ w'.cell? ⟨w.heap.size, 1, none⟩ = some (.int .i32 b) ∧ w'.cell? ⟨w7.heap.size, 0, none⟩ = some (.int .i32 mm1) ∧ w'.cell? ⟨w7.heap.size, 1, none⟩ = some (.int .i32 mm2)) (ds := [6]) #[false, false, false, false, false, false, false] (by kernel_rfl) rfl rfl ⟨gp0, gq0, p0, q0, hp0, hq0⟩ (fun hHeld => ?_)
    have F := F.drew
    have G := G.drew
    have H := H.drew
    refine take_ (i := 0) (N := some 34) (v := ?_) (a' := ?_) #[true, false, false, false, false, false, false] rfl rfl (by kernel_rfl) (fun _ _ _ h => h) (Or.inl ⟨by rfl, ?_⟩) hHeld ?_ ?_
    rotate_left
    · rintro w' ⟨s0, s1, s2, s3, s4, s5⟩
      go_simp
      with_reducible rfl
    rotate_left
    · simp only [Act.put, List.setIfInBounds_toArray, List.set_cons_zero, List.set_cons_succ, i64_w, i32_w]
      rfl
    refine take_ (i := 1) (N := some 35) (v := ?_) (a' := ?_) #[true, true, false, false, false, false, false] rfl rfl (by kernel_rfl) (fun _ _ _ h => h) (Or.inl ⟨by rfl, ?_⟩) hHeld ?_ ?_
    rotate_left
    · rintro w' ⟨s0, s1, s2, s3, s4, s5⟩
      go_simp
      with_reducible rfl
    rotate_left
    · simp only [Act.put, List.setIfInBounds_toArray, List.set_cons_zero, List.set_cons_succ, i64_w, i32_w]
      rfl
    refine take_ (i := 2) (N := some 36) (v := ?_) (a' := ?_) #[true, true, true, false, false, false, false] rfl rfl (by kernel_rfl) (fun _ _ _ h => h) (Or.inl ⟨by rfl, ?_⟩) hHeld ?_ ?_
    rotate_left
    · rintro w' ⟨s0, s1, s2, s3, s4, s5⟩
      go_simp
      with_reducible rfl
    rotate_left
    · simp only [Act.put, List.setIfInBounds_toArray, List.set_cons_zero, List.set_cons_succ, i64_w, i32_w]
      rfl
    refine pure_ (i := 3) (N := some 37) (v := ?_) (a' := ?_) #[true, true, true, true, false, false, false] rfl rfl (by kernel_rfl) (fun _ _ _ h => h) (Or.inl ⟨by rfl, ?_⟩) ?_ ?_
    rotate_left
    · intro w'
      go_simp
      with_reducible rfl
    rotate_left
    · simp only [Act.put, List.setIfInBounds_toArray, List.set_cons_zero, List.set_cons_succ, i64_w, i32_w]
      rfl
    refine one_ (i := 4) (N := some 38) #[true, true, true, true, true, false, false] rfl rfl (by kernel_rfl) (by decide) (fun K hK => ?_)
    rw [if_pos (by rfl)]
    go_simp
    go_at_call 29
    (with_reducible refine (HC1.out _).mono ?_)
    rintro e w1 ⟨rfl, hb⟩
    have F : Fr w w1 [(23, #[.int .i32 a, .int .i32 b]), (23, #[.int .i32 c, .int .i32 d]), (23, #[.int .i32 0, .int .i32 0])] := (by first | exact F.call hb | exact F.drew.call hb | exact (F.drewN _).call hb | exact (F.alloc _).call hb | exact (F.alloc _).drew.call hb)
    have G : Fr w6 w1 [(23, #[.int .i32 1, .int .i32 0])] := (by first | exact G.call hb | exact G.drew.call hb | exact (G.drewN _).call hb | exact (G.alloc _).call hb | exact (G.alloc _).drew.call hb)
    have H : Fr w7 w1 [(23, #[.int .i32 mm1, .int .i32 mm2])] := (by first | exact H.call hb | exact H.drew.call hb | exact (H.drewN _).call hb | exact (H.alloc _).call hb | exact (H.alloc _).drew.call hb)
    obtain ⟨p0, q0, f0, g0⟩ := F.pair0 23 _ _ rfl
    obtain ⟨p1, q1, f1, g1⟩ := F.pair1 23 _ _ rfl
    obtain ⟨p2, q2, f2, g2⟩ := F.pair2 23 _ _ rfl
    obtain ⟨gp0, gq0, gf0, gg0⟩ := G.pair0 23 _ _ rfl
    obtain ⟨hp0, hq0, hf0, hg0⟩ := H.pair0 23 _ _ rfl
    refine hK.out _ _ ⟨gp0, gq0, p0, q0, hp0, hq0⟩ (fun hHeld => ?_)
    clear hK K
    refine one_ (i := 5) (N := some 39) #[true, true, true, true, true, true, false] rfl rfl (by kernel_rfl) (by decide) (fun K hK => ?_)
    rw [if_pos (by rfl)]
    go_simp
    go_at_call 11
    (with_reducible refine (HJ1.out _).mono ?_)
    rintro e w1 ⟨rfl, hb⟩
    have F : Fr w w1 [(23, #[.int .i32 a, .int .i32 b]), (23, #[.int .i32 c, .int .i32 d]), (23, #[.int .i32 0, .int .i32 0])] := (by first | exact F.call hb | exact F.drew.call hb | exact (F.drewN _).call hb | exact (F.alloc _).call hb | exact (F.alloc _).drew.call hb)
    have G : Fr w6 w1 [(23, #[.int .i32 1, .int .i32 0])] := (by first | exact G.call hb | exact G.drew.call hb | exact (G.drewN _).call hb | exact (G.alloc _).call hb | exact (G.alloc _).drew.call hb)
    have H : Fr w7 w1 [(23, #[.int .i32 mm1, .int .i32 mm2])] := (by first | exact H.call hb | exact H.drew.call hb | exact (H.drewN _).call hb | exact (H.alloc _).call hb | exact (H.alloc _).drew.call hb)
    obtain ⟨p0, q0, f0, g0⟩ := F.pair0 23 _ _ rfl
    obtain ⟨p1, q1, f1, g1⟩ := F.pair1 23 _ _ rfl
    obtain ⟨p2, q2, f2, g2⟩ := F.pair2 23 _ _ rfl
    obtain ⟨gp0, gq0, gf0, gg0⟩ := G.pair0 23 _ _ rfl
    obtain ⟨hp0, hq0, hf0, hg0⟩ := H.pair0 23 _ _ rfl
    refine hK.out _ _ ⟨gp0, gq0, p0, q0, hp0, hq0⟩ (fun hHeld => ?_)
    clear hK K
    refine last_ (i := 6) (N := none) #[true, true, true, true, true, true, true] rfl rfl (by kernel_rfl) (by decide) (fun K hK => ?_)
    rw [if_pos (by rfl)]
    go_simp
    refine hK.out _ _ ?_
    clear hK K
    refine done_ (by kernel_rfl) ?_
    have G := G.put0 23 _ _ rfl (.int .i32 j1) (.int .i32 j2)
    have F := (F.far w6.heap.size 0 (Nat.succ_le_of_lt hsz) (.int .i32 j1)).far w6.heap.size 1 (Nat.succ_le_of_lt hsz) (.int .i32 j2)
    go_wp2
    generalize (w1.setCell ⟨w6.heap.size, 0, none⟩ (.int .i32 j1)).setCell ⟨w6.heap.size, 1, none⟩ (.int .i32 j2) = w9 at *
    obtain ⟨p0, q0, f0, g0⟩ := F.pair0 23 _ _ rfl; obtain ⟨p1, q1, f1, g1⟩ := F.pair1 23 _ _ rfl; obtain ⟨p2, q2, f2, g2⟩ := F.pair2 23 _ _ rfl
    obtain ⟨gp0, gq0, gf0, gg0⟩ := G.pair0 23 _ _ rfl
    clear H
    have H := Fr.one w9 23 #[.int .i32 nn1, .int .i32 nn2]
    have F := F.alloc (.cells #[.int .i32 nn1, .int .i32 nn2] 23 (0, 0))
    have G := G.alloc (.cells #[.int .i32 nn1, .int .i32 nn2] 23 (0, 0))
    rw [rounds_succ]
    go_wp2_with (first | (go_at_call 17; ((with_reducible refine (isEmpty_r _ _ _ EQ.out _).mono ?_); rintro e w8b ⟨rfl, hb⟩; have F : Fr w w8b [(23, #[.int .i32 a, .int .i32 b]), (23, #[.int .i32 c, .int .i32 d]), (23, #[.int .i32 0, .int .i32 0])] := (by first | exact F.call hb | exact F.drew.call hb | exact (F.drewN _).call hb | exact (F.alloc _).call hb | exact (F.alloc _).drew.call hb); have G : Fr w6 w8b [(23, #[.int .i32 j1, .int .i32 j2])] := (by first | exact G.call hb | exact G.drew.call hb | exact (G.drewN _).call hb | exact (G.alloc _).call hb | exact (G.alloc _).drew.call hb); have H : Fr w9 w8b [(23, #[.int .i32 nn1, .int .i32 nn2])] := (by first | exact H.call hb | exact H.drew.call hb | exact (H.drewN _).call hb | exact (H.alloc _).call hb | exact (H.alloc _).drew.call hb); obtain ⟨p0, q0, f0, g0⟩ := F.pair0 23 _ _ rfl; obtain ⟨p1, q1, f1, g1⟩ := F.pair1 23 _ _ rfl; obtain ⟨p2, q2, f2, g2⟩ := F.pair2 23 _ _ rfl; obtain ⟨gp0, gq0, gf0, gg0⟩ := G.pair0 23 _ _ rfl; obtain ⟨hp0, hq0, hf0, hg0⟩ := H.pair0 23 _ _ rfl)))
    refine start_ (n := 7) (S := fun w' => w'.cell? ⟨w6.heap.size, 0, none⟩ = some (.int .i32 j1) ∧ w'.cell? ⟨w6.heap.size, 1, none⟩ = some (.int .i32 j2) ∧ w'.cell? ⟨w.heap.size, 0, none⟩ = some (.int .i32 a) ∧ w'.cell? ⟨w.heap.size, 1, none⟩ = some (.int .i32 b) ∧ w'.cell? ⟨w9.heap.size, 0, none⟩ = some (.int .i32 nn1) ∧ w'.cell? ⟨w9.heap.size, 1, none⟩ = some (.int .i32 nn2)) (ds := [6]) #[false, false, false, false, false, false, false] (by kernel_rfl) rfl rfl ⟨gp0, gq0, p0, q0, hp0, hq0⟩ (fun hHeld => ?_)
    have F := F.drew
    have G := G.drew
    have H := H.drew
    refine take_ (i := 0) (N := some 34) (v := ?_) (a' := ?_) #[true, false, false, false, false, false, false] rfl rfl (by kernel_rfl) (fun _ _ _ h => h) (Or.inl ⟨by rfl, ?_⟩) hHeld ?_ ?_
    rotate_left
    · rintro w' ⟨s0, s1, s2, s3, s4, s5⟩
      go_simp
      with_reducible rfl
    rotate_left
    · simp only [Act.put, List.setIfInBounds_toArray, List.set_cons_zero, List.set_cons_succ, i64_w, i32_w]
      rfl
    refine take_ (i := 1) (N := some 35) (v := ?_) (a' := ?_) #[true, true, false, false, false, false, false] rfl rfl (by kernel_rfl) (fun _ _ _ h => h) (Or.inl ⟨by rfl, ?_⟩) hHeld ?_ ?_
    rotate_left
    · rintro w' ⟨s0, s1, s2, s3, s4, s5⟩
      go_simp
      with_reducible rfl
    rotate_left
    · simp only [Act.put, List.setIfInBounds_toArray, List.set_cons_zero, List.set_cons_succ, i64_w, i32_w]
      rfl
    refine take_ (i := 2) (N := some 36) (v := ?_) (a' := ?_) #[true, true, true, false, false, false, false] rfl rfl (by kernel_rfl) (fun _ _ _ h => h) (Or.inl ⟨by rfl, ?_⟩) hHeld ?_ ?_
    rotate_left
    · rintro w' ⟨s0, s1, s2, s3, s4, s5⟩
      go_simp
      with_reducible rfl
    rotate_left
    · simp only [Act.put, List.setIfInBounds_toArray, List.set_cons_zero, List.set_cons_succ, i64_w, i32_w]
      rfl
    refine pure_ (i := 3) (N := some 37) (v := ?_) (a' := ?_) #[true, true, true, true, false, false, false] rfl rfl (by kernel_rfl) (fun _ _ _ h => h) (Or.inl ⟨by rfl, ?_⟩) ?_ ?_
    rotate_left
    · intro w'
      go_simp
      with_reducible rfl
    rotate_left
    · simp only [Act.put, List.setIfInBounds_toArray, List.set_cons_zero, List.set_cons_succ, i64_w, i32_w]
      rfl
    refine one_ (i := 4) (N := some 38) #[true, true, true, true, true, false, false] rfl rfl (by kernel_rfl) (by decide) (fun K hK => ?_)
    rw [if_pos (by rfl)]
    go_simp
    go_at_call 29
    (with_reducible refine (HC2.out _).mono ?_)
    rintro e w1 ⟨rfl, hb⟩
    have F : Fr w w1 [(23, #[.int .i32 a, .int .i32 b]), (23, #[.int .i32 c, .int .i32 d]), (23, #[.int .i32 0, .int .i32 0])] := (by first | exact F.call hb | exact F.drew.call hb | exact (F.drewN _).call hb | exact (F.alloc _).call hb | exact (F.alloc _).drew.call hb)
    have G : Fr w6 w1 [(23, #[.int .i32 j1, .int .i32 j2])] := (by first | exact G.call hb | exact G.drew.call hb | exact (G.drewN _).call hb | exact (G.alloc _).call hb | exact (G.alloc _).drew.call hb)
    have H : Fr w9 w1 [(23, #[.int .i32 nn1, .int .i32 nn2])] := (by first | exact H.call hb | exact H.drew.call hb | exact (H.drewN _).call hb | exact (H.alloc _).call hb | exact (H.alloc _).drew.call hb)
    obtain ⟨p0, q0, f0, g0⟩ := F.pair0 23 _ _ rfl
    obtain ⟨p1, q1, f1, g1⟩ := F.pair1 23 _ _ rfl
    obtain ⟨p2, q2, f2, g2⟩ := F.pair2 23 _ _ rfl
    obtain ⟨gp0, gq0, gf0, gg0⟩ := G.pair0 23 _ _ rfl
    obtain ⟨hp0, hq0, hf0, hg0⟩ := H.pair0 23 _ _ rfl
    refine hK.out _ _ ⟨gp0, gq0, p0, q0, hp0, hq0⟩ (fun hHeld => ?_)
    clear hK K
    refine one_ (i := 5) (N := some 39) #[true, true, true, true, true, true, false] rfl rfl (by kernel_rfl) (by decide) (fun K hK => ?_)
    rw [if_pos (by rfl)]
    go_simp
    go_at_call 11
    (with_reducible refine (HJ2.out _).mono ?_)
    rintro e w1 ⟨rfl, hb⟩
    have F : Fr w w1 [(23, #[.int .i32 a, .int .i32 b]), (23, #[.int .i32 c, .int .i32 d]), (23, #[.int .i32 0, .int .i32 0])] := (by first | exact F.call hb | exact F.drew.call hb | exact (F.drewN _).call hb | exact (F.alloc _).call hb | exact (F.alloc _).drew.call hb)
    have G : Fr w6 w1 [(23, #[.int .i32 j1, .int .i32 j2])] := (by first | exact G.call hb | exact G.drew.call hb | exact (G.drewN _).call hb | exact (G.alloc _).call hb | exact (G.alloc _).drew.call hb)
    have H : Fr w9 w1 [(23, #[.int .i32 nn1, .int .i32 nn2])] := (by first | exact H.call hb | exact H.drew.call hb | exact (H.drewN _).call hb | exact (H.alloc _).call hb | exact (H.alloc _).drew.call hb)
    obtain ⟨p0, q0, f0, g0⟩ := F.pair0 23 _ _ rfl
    obtain ⟨p1, q1, f1, g1⟩ := F.pair1 23 _ _ rfl
    obtain ⟨p2, q2, f2, g2⟩ := F.pair2 23 _ _ rfl
    obtain ⟨gp0, gq0, gf0, gg0⟩ := G.pair0 23 _ _ rfl
    obtain ⟨hp0, hq0, hf0, hg0⟩ := H.pair0 23 _ _ rfl
    refine hK.out _ _ ⟨gp0, gq0, p0, q0, hp0, hq0⟩ (fun hHeld => ?_)
    clear hK K
    refine last_ (i := 6) (N := none) #[true, true, true, true, true, true, true] rfl rfl (by kernel_rfl) (by decide) (fun K hK => ?_)
    rw [if_pos (by rfl)]
    go_simp
    refine hK.out _ _ ?_
    clear hK K
    refine done_ (by kernel_rfl) ?_
    have G := G.put0 23 _ _ rfl (.int .i32 r1) (.int .i32 r2)
    have F := (F.far w6.heap.size 0 (Nat.succ_le_of_lt hsz) (.int .i32 r1)).far w6.heap.size 1 (Nat.succ_le_of_lt hsz) (.int .i32 r2)
    go_wp2
    generalize (w1.setCell ⟨w6.heap.size, 0, none⟩ (.int .i32 r1)).setCell ⟨w6.heap.size, 1, none⟩ (.int .i32 r2) = w10 at *
    obtain ⟨p0, q0, f0, g0⟩ := F.pair0 23 _ _ rfl; obtain ⟨p1, q1, f1, g1⟩ := F.pair1 23 _ _ rfl; obtain ⟨p2, q2, f2, g2⟩ := F.pair2 23 _ _ rfl
    obtain ⟨gp0, gq0, gf0, gg0⟩ := G.pair0 23 _ _ rfl
    clear H
    rw [rounds_succ]
    go_wp2
    have F := F.put2 23 _ _ rfl (.int .i32 r1) (.int .i32 r2)
    exact bodyPost_ret (results_cell_row rfl _ _ (w.heap.size + 1 + 1) 23 #[.int .i32 r1, .int .i32 r2] (0, 0) _ rfl (F.blk2 23 _ rfl) Try.underlying23 rfl (by kernel_rfl)) rfl ⟨rfl, F.below⟩
    
  | true =>
    have HF1 := Lib.hid hf1
    have hf3 : ct c d (-1) = false := by simpa using hf2
    have HF2 := Lib.hid hf3
    clear hf3
    clear hf1 hf2
    go_enter Try.func33, Try.ntmps33
    go_wp2_with fail
    go_region_held3 (fun w' => w'.cell? ⟨w.heap.size + 1, 0, none⟩ = some (.int .i32 c) ∧ w'.cell? ⟨w.heap.size + 1, 1, none⟩ = some (.int .i32 d))
      (first | go_keep | exact ⟨p1, q1⟩)
      (first | (go_at_call 27; ((with_reducible refine (of_c _ _).mono ?_); rintro e w1 ⟨rfl, hb⟩; have F : Fr w w1 [(23, #[.int .i32 a, .int .i32 b]), (23, #[.int .i32 c, .int .i32 d]), (23, #[.int .i32 0, .int .i32 0])] := (by first | exact F.call hb | exact (F.drewN _).call hb | exact F.drew.call hb | exact (F.alloc _).call hb); obtain ⟨p0, q0, f0, g0⟩ := F.pair0 23 _ _ rfl; obtain ⟨p1, q1, f1, g1⟩ := F.pair1 23 _ _ rfl; obtain ⟨p2, q2, f2, g2⟩ := F.pair2 23 _ _ rfl)))
    go_wp2_with (first | (go_at_call 15; ((with_reducible refine (contains_r a b (-2147483648) _ HF1.out _).mono ?_); rintro e w1 ⟨rfl, hb⟩; have F : Fr w w1 [(23, #[.int .i32 a, .int .i32 b]), (23, #[.int .i32 c, .int .i32 d]), (23, #[.int .i32 0, .int .i32 0])] := (by first | exact F.call hb | exact (F.drewN _).call hb | exact F.drew.call hb | exact (F.alloc _).call hb); obtain ⟨p0, q0, f0, g0⟩ := F.pair0 23 _ _ rfl; obtain ⟨p1, q1, f1, g1⟩ := F.pair1 23 _ _ rfl; obtain ⟨p2, q2, f2, g2⟩ := F.pair2 23 _ _ rfl)) | (go_at_call 15; ((with_reducible refine (contains_r c d (-1) _ HF2.out _).mono ?_); rintro e w1 ⟨rfl, hb⟩; have F : Fr w w1 [(23, #[.int .i32 a, .int .i32 b]), (23, #[.int .i32 c, .int .i32 d]), (23, #[.int .i32 0, .int .i32 0])] := (by first | exact F.call hb | exact (F.drewN _).call hb | exact F.drew.call hb | exact (F.alloc _).call hb); obtain ⟨p0, q0, f0, g0⟩ := F.pair0 23 _ _ rfl; obtain ⟨p1, q1, f1, g1⟩ := F.pair1 23 _ _ rfl; obtain ⟨p2, q2, f2, g2⟩ := F.pair2 23 _ _ rfl)) | (go_at_call 18; ((with_reducible refine (empty_c _).mono ?_); rintro e w6 ⟨rfl, hb⟩; have F : Fr w w6 [(23, #[.int .i32 a, .int .i32 b]), (23, #[.int .i32 c, .int .i32 d]), (23, #[.int .i32 0, .int .i32 0])] := (by first | exact F.call hb | exact (F.drewN _).call hb | exact F.drew.call hb | exact (F.alloc _).call hb); obtain ⟨p0, q0, f0, g0⟩ := F.pair0 23 _ _ rfl; obtain ⟨p1, q1, f1, g1⟩ := F.pair1 23 _ _ rfl; obtain ⟨p2, q2, f2, g2⟩ := F.pair2 23 _ _ rfl)))
    have hsz : w.heap.size + 2 < w6.heap.size := F.size 2 _ rfl
    have G := Fr.one w6 23 #[.int .i32 1, .int .i32 0]
    have F := F.alloc (.cells #[.int .i32 1, .int .i32 0] 23 (0, 0))
    obtain ⟨p0, q0, f0, g0⟩ := F.pair0 23 _ _ rfl; obtain ⟨p1, q1, f1, g1⟩ := F.pair1 23 _ _ rfl; obtain ⟨p2, q2, f2, g2⟩ := F.pair2 23 _ _ rfl
    obtain ⟨gp0, gq0, gf0, gg0⟩ := G.pair0 23 _ _ rfl
    go_region_held3 (fun w' => w'.cell? ⟨w.heap.size + 1, 0, none⟩ = some (.int .i32 c) ∧ w'.cell? ⟨w.heap.size + 1, 1, none⟩ = some (.int .i32 d))
      (first | go_keep | exact ⟨p1, q1⟩)
      (first | (go_at_call 12; ((with_reducible refine (HM.out _).mono ?_); rintro e w7 ⟨rfl, hb⟩; have F : Fr w w7 [(23, #[.int .i32 a, .int .i32 b]), (23, #[.int .i32 c, .int .i32 d]), (23, #[.int .i32 0, .int .i32 0])] := (by first | exact F.call hb | exact F.drew.call hb | exact (F.drewN _).call hb | exact (F.alloc _).call hb | exact (F.alloc _).drew.call hb); have G : Fr w6 w7 [(23, #[.int .i32 1, .int .i32 0])] := (by first | exact G.call hb | exact G.drew.call hb | exact (G.drewN _).call hb | exact (G.alloc _).call hb | exact (G.alloc _).drew.call hb); obtain ⟨p0, q0, f0, g0⟩ := F.pair0 23 _ _ rfl; obtain ⟨p1, q1, f1, g1⟩ := F.pair1 23 _ _ rfl; obtain ⟨p2, q2, f2, g2⟩ := F.pair2 23 _ _ rfl; obtain ⟨gp0, gq0, gf0, gg0⟩ := G.pair0 23 _ _ rfl)) | (go_at_call 12; ((with_reducible refine (HQ.out _).mono ?_); rintro e w7 ⟨rfl, hb⟩; have F : Fr w w7 [(23, #[.int .i32 a, .int .i32 b]), (23, #[.int .i32 c, .int .i32 d]), (23, #[.int .i32 0, .int .i32 0])] := (by first | exact F.call hb | exact F.drew.call hb | exact (F.drewN _).call hb | exact (F.alloc _).call hb | exact (F.alloc _).drew.call hb); have G : Fr w6 w7 [(23, #[.int .i32 1, .int .i32 0])] := (by first | exact G.call hb | exact G.drew.call hb | exact (G.drewN _).call hb | exact (G.alloc _).call hb | exact (G.alloc _).drew.call hb); obtain ⟨p0, q0, f0, g0⟩ := F.pair0 23 _ _ rfl; obtain ⟨p1, q1, f1, g1⟩ := F.pair1 23 _ _ rfl; obtain ⟨p2, q2, f2, g2⟩ := F.pair2 23 _ _ rfl; obtain ⟨gp0, gq0, gf0, gg0⟩ := G.pair0 23 _ _ rfl)))
    have i0 : ∀ w, (Instr.index 66 (.agg #[.int .i32 mm1, .int .i32 mm2, .int .i32 nn1, .int .i32 nn2]) (.int .i64 0)).run Try.prog w = .ok (.agg #[.int .i32 mm1, .int .i32 mm2]) w := fun _ => by kernel_rfl
    have i1 : ∀ w, (Instr.index 66 (.agg #[.int .i32 mm1, .int .i32 mm2, .int .i32 nn1, .int .i32 nn2]) (.int .i64 1)).run Try.prog w = .ok (.agg #[.int .i32 nn1, .int .i32 nn2]) w := fun _ => by kernel_rfl
    go_wp2
    refine wp_loop_rounds 3 ?_
    have H := Fr.one w7 23 #[.int .i32 mm1, .int .i32 mm2]
    have F := F.alloc (.cells #[.int .i32 mm1, .int .i32 mm2] 23 (0, 0))
    have G := G.alloc (.cells #[.int .i32 mm1, .int .i32 mm2] 23 (0, 0))
    rw [rounds_succ]
    go_wp2_with (first | (go_at_call 17; ((with_reducible refine (isEmpty_r _ _ _ EM.out _).mono ?_); rintro e w8a ⟨rfl, hb⟩; have F : Fr w w8a [(23, #[.int .i32 a, .int .i32 b]), (23, #[.int .i32 c, .int .i32 d]), (23, #[.int .i32 0, .int .i32 0])] := (by first | exact F.call hb | exact F.drew.call hb | exact (F.drewN _).call hb | exact (F.alloc _).call hb | exact (F.alloc _).drew.call hb); have G : Fr w6 w8a [(23, #[.int .i32 1, .int .i32 0])] := (by first | exact G.call hb | exact G.drew.call hb | exact (G.drewN _).call hb | exact (G.alloc _).call hb | exact (G.alloc _).drew.call hb); have H : Fr w7 w8a [(23, #[.int .i32 mm1, .int .i32 mm2])] := (by first | exact H.call hb | exact H.drew.call hb | exact (H.drewN _).call hb | exact (H.alloc _).call hb | exact (H.alloc _).drew.call hb); obtain ⟨p0, q0, f0, g0⟩ := F.pair0 23 _ _ rfl; obtain ⟨p1, q1, f1, g1⟩ := F.pair1 23 _ _ rfl; obtain ⟨p2, q2, f2, g2⟩ := F.pair2 23 _ _ rfl; obtain ⟨gp0, gq0, gf0, gg0⟩ := G.pair0 23 _ _ rfl; obtain ⟨hp0, hq0, hf0, hg0⟩ := H.pair0 23 _ _ rfl)))
    refine start_ (n := 7) (S := fun w' => w'.cell? ⟨w6.heap.size, 0, none⟩ = some (.int .i32 1) ∧ w'.cell? ⟨w6.heap.size, 1, none⟩ = some (.int .i32 0) ∧ w'.cell? ⟨w.heap.size, 0, none⟩ = some (.int .i32 a) ∧ w'.cell? ⟨w.heap.size, 1, none⟩ = some (.int .i32 b) ∧ w'.cell? ⟨w7.heap.size, 0, none⟩ = some (.int .i32 mm1) ∧ w'.cell? ⟨w7.heap.size, 1, none⟩ = some (.int .i32 mm2)) (ds := [6]) #[false, false, false, false, false, false, false] (by kernel_rfl) rfl rfl ⟨gp0, gq0, p0, q0, hp0, hq0⟩ (fun hHeld => ?_)
    have F := F.drew
    have G := G.drew
    have H := H.drew
    refine take_ (i := 0) (N := some 34) (v := ?_) (a' := ?_) #[true, false, false, false, false, false, false] rfl rfl (by kernel_rfl) (fun _ _ _ h => h) (Or.inl ⟨by rfl, ?_⟩) hHeld ?_ ?_
    rotate_left
    · rintro w' ⟨s0, s1, s2, s3, s4, s5⟩
      go_simp
      with_reducible rfl
    rotate_left
    · simp only [Act.put, List.setIfInBounds_toArray, List.set_cons_zero, List.set_cons_succ, i64_w, i32_w]
      rfl
    refine take_ (i := 1) (N := some 35) (v := ?_) (a' := ?_) #[true, true, false, false, false, false, false] rfl rfl (by kernel_rfl) (fun _ _ _ h => h) (Or.inl ⟨by rfl, ?_⟩) hHeld ?_ ?_
    rotate_left
    · rintro w' ⟨s0, s1, s2, s3, s4, s5⟩
      go_simp
      with_reducible rfl
    rotate_left
    · simp only [Act.put, List.setIfInBounds_toArray, List.set_cons_zero, List.set_cons_succ, i64_w, i32_w]
      rfl
    refine take_ (i := 2) (N := some 36) (v := ?_) (a' := ?_) #[true, true, true, false, false, false, false] rfl rfl (by kernel_rfl) (fun _ _ _ h => h) (Or.inl ⟨by rfl, ?_⟩) hHeld ?_ ?_
    rotate_left
    · rintro w' ⟨s0, s1, s2, s3, s4, s5⟩
      go_simp
      with_reducible rfl
    rotate_left
    · simp only [Act.put, List.setIfInBounds_toArray, List.set_cons_zero, List.set_cons_succ, i64_w, i32_w]
      rfl
    refine pure_ (i := 3) (N := some 37) (v := ?_) (a' := ?_) #[true, true, true, true, false, false, false] rfl rfl (by kernel_rfl) (fun _ _ _ h => h) (Or.inl ⟨by rfl, ?_⟩) ?_ ?_
    rotate_left
    · intro w'
      go_simp
      with_reducible rfl
    rotate_left
    · simp only [Act.put, List.setIfInBounds_toArray, List.set_cons_zero, List.set_cons_succ, i64_w, i32_w]
      rfl
    refine one_ (i := 4) (N := some 38) #[true, true, true, true, true, false, false] rfl rfl (by kernel_rfl) (by decide) (fun K hK => ?_)
    rw [if_pos (by rfl)]
    go_simp
    go_at_call 29
    (with_reducible refine (HC1.out _).mono ?_)
    rintro e w1 ⟨rfl, hb⟩
    have F : Fr w w1 [(23, #[.int .i32 a, .int .i32 b]), (23, #[.int .i32 c, .int .i32 d]), (23, #[.int .i32 0, .int .i32 0])] := (by first | exact F.call hb | exact F.drew.call hb | exact (F.drewN _).call hb | exact (F.alloc _).call hb | exact (F.alloc _).drew.call hb)
    have G : Fr w6 w1 [(23, #[.int .i32 1, .int .i32 0])] := (by first | exact G.call hb | exact G.drew.call hb | exact (G.drewN _).call hb | exact (G.alloc _).call hb | exact (G.alloc _).drew.call hb)
    have H : Fr w7 w1 [(23, #[.int .i32 mm1, .int .i32 mm2])] := (by first | exact H.call hb | exact H.drew.call hb | exact (H.drewN _).call hb | exact (H.alloc _).call hb | exact (H.alloc _).drew.call hb)
    obtain ⟨p0, q0, f0, g0⟩ := F.pair0 23 _ _ rfl
    obtain ⟨p1, q1, f1, g1⟩ := F.pair1 23 _ _ rfl
    obtain ⟨p2, q2, f2, g2⟩ := F.pair2 23 _ _ rfl
    obtain ⟨gp0, gq0, gf0, gg0⟩ := G.pair0 23 _ _ rfl
    obtain ⟨hp0, hq0, hf0, hg0⟩ := H.pair0 23 _ _ rfl
    refine hK.out _ _ ⟨gp0, gq0, p0, q0, hp0, hq0⟩ (fun hHeld => ?_)
    clear hK K
    refine one_ (i := 5) (N := some 39) #[true, true, true, true, true, true, false] rfl rfl (by kernel_rfl) (by decide) (fun K hK => ?_)
    rw [if_pos (by rfl)]
    go_simp
    go_at_call 11
    (with_reducible refine (HJ1.out _).mono ?_)
    rintro e w1 ⟨rfl, hb⟩
    have F : Fr w w1 [(23, #[.int .i32 a, .int .i32 b]), (23, #[.int .i32 c, .int .i32 d]), (23, #[.int .i32 0, .int .i32 0])] := (by first | exact F.call hb | exact F.drew.call hb | exact (F.drewN _).call hb | exact (F.alloc _).call hb | exact (F.alloc _).drew.call hb)
    have G : Fr w6 w1 [(23, #[.int .i32 1, .int .i32 0])] := (by first | exact G.call hb | exact G.drew.call hb | exact (G.drewN _).call hb | exact (G.alloc _).call hb | exact (G.alloc _).drew.call hb)
    have H : Fr w7 w1 [(23, #[.int .i32 mm1, .int .i32 mm2])] := (by first | exact H.call hb | exact H.drew.call hb | exact (H.drewN _).call hb | exact (H.alloc _).call hb | exact (H.alloc _).drew.call hb)
    obtain ⟨p0, q0, f0, g0⟩ := F.pair0 23 _ _ rfl
    obtain ⟨p1, q1, f1, g1⟩ := F.pair1 23 _ _ rfl
    obtain ⟨p2, q2, f2, g2⟩ := F.pair2 23 _ _ rfl
    obtain ⟨gp0, gq0, gf0, gg0⟩ := G.pair0 23 _ _ rfl
    obtain ⟨hp0, hq0, hf0, hg0⟩ := H.pair0 23 _ _ rfl
    refine hK.out _ _ ⟨gp0, gq0, p0, q0, hp0, hq0⟩ (fun hHeld => ?_)
    clear hK K
    refine last_ (i := 6) (N := none) #[true, true, true, true, true, true, true] rfl rfl (by kernel_rfl) (by decide) (fun K hK => ?_)
    rw [if_pos (by rfl)]
    go_simp
    refine hK.out _ _ ?_
    clear hK K
    refine done_ (by kernel_rfl) ?_
    have G := G.put0 23 _ _ rfl (.int .i32 j1) (.int .i32 j2)
    have F := (F.far w6.heap.size 0 (Nat.succ_le_of_lt hsz) (.int .i32 j1)).far w6.heap.size 1 (Nat.succ_le_of_lt hsz) (.int .i32 j2)
    go_wp2
    generalize (w1.setCell ⟨w6.heap.size, 0, none⟩ (.int .i32 j1)).setCell ⟨w6.heap.size, 1, none⟩ (.int .i32 j2) = w9 at *
    obtain ⟨p0, q0, f0, g0⟩ := F.pair0 23 _ _ rfl; obtain ⟨p1, q1, f1, g1⟩ := F.pair1 23 _ _ rfl; obtain ⟨p2, q2, f2, g2⟩ := F.pair2 23 _ _ rfl
    obtain ⟨gp0, gq0, gf0, gg0⟩ := G.pair0 23 _ _ rfl
    clear H
    have H := Fr.one w9 23 #[.int .i32 nn1, .int .i32 nn2]
    have F := F.alloc (.cells #[.int .i32 nn1, .int .i32 nn2] 23 (0, 0))
    have G := G.alloc (.cells #[.int .i32 nn1, .int .i32 nn2] 23 (0, 0))
    rw [rounds_succ]
    go_wp2_with (first | (go_at_call 17; ((with_reducible refine (isEmpty_r _ _ _ EQ.out _).mono ?_); rintro e w8b ⟨rfl, hb⟩; have F : Fr w w8b [(23, #[.int .i32 a, .int .i32 b]), (23, #[.int .i32 c, .int .i32 d]), (23, #[.int .i32 0, .int .i32 0])] := (by first | exact F.call hb | exact F.drew.call hb | exact (F.drewN _).call hb | exact (F.alloc _).call hb | exact (F.alloc _).drew.call hb); have G : Fr w6 w8b [(23, #[.int .i32 j1, .int .i32 j2])] := (by first | exact G.call hb | exact G.drew.call hb | exact (G.drewN _).call hb | exact (G.alloc _).call hb | exact (G.alloc _).drew.call hb); have H : Fr w9 w8b [(23, #[.int .i32 nn1, .int .i32 nn2])] := (by first | exact H.call hb | exact H.drew.call hb | exact (H.drewN _).call hb | exact (H.alloc _).call hb | exact (H.alloc _).drew.call hb); obtain ⟨p0, q0, f0, g0⟩ := F.pair0 23 _ _ rfl; obtain ⟨p1, q1, f1, g1⟩ := F.pair1 23 _ _ rfl; obtain ⟨p2, q2, f2, g2⟩ := F.pair2 23 _ _ rfl; obtain ⟨gp0, gq0, gf0, gg0⟩ := G.pair0 23 _ _ rfl; obtain ⟨hp0, hq0, hf0, hg0⟩ := H.pair0 23 _ _ rfl)))
    refine start_ (n := 7) (S := fun w' => w'.cell? ⟨w6.heap.size, 0, none⟩ = some (.int .i32 j1) ∧ w'.cell? ⟨w6.heap.size, 1, none⟩ = some (.int .i32 j2) ∧ w'.cell? ⟨w.heap.size, 0, none⟩ = some (.int .i32 a) ∧ w'.cell? ⟨w.heap.size, 1, none⟩ = some (.int .i32 b) ∧ w'.cell? ⟨w9.heap.size, 0, none⟩ = some (.int .i32 nn1) ∧ w'.cell? ⟨w9.heap.size, 1, none⟩ = some (.int .i32 nn2)) (ds := [6]) #[false, false, false, false, false, false, false] (by kernel_rfl) rfl rfl ⟨gp0, gq0, p0, q0, hp0, hq0⟩ (fun hHeld => ?_)
    have F := F.drew
    have G := G.drew
    have H := H.drew
    refine take_ (i := 0) (N := some 34) (v := ?_) (a' := ?_) #[true, false, false, false, false, false, false] rfl rfl (by kernel_rfl) (fun _ _ _ h => h) (Or.inl ⟨by rfl, ?_⟩) hHeld ?_ ?_
    rotate_left
    · rintro w' ⟨s0, s1, s2, s3, s4, s5⟩
      go_simp
      with_reducible rfl
    rotate_left
    · simp only [Act.put, List.setIfInBounds_toArray, List.set_cons_zero, List.set_cons_succ, i64_w, i32_w]
      rfl
    refine take_ (i := 1) (N := some 35) (v := ?_) (a' := ?_) #[true, true, false, false, false, false, false] rfl rfl (by kernel_rfl) (fun _ _ _ h => h) (Or.inl ⟨by rfl, ?_⟩) hHeld ?_ ?_
    rotate_left
    · rintro w' ⟨s0, s1, s2, s3, s4, s5⟩
      go_simp
      with_reducible rfl
    rotate_left
    · simp only [Act.put, List.setIfInBounds_toArray, List.set_cons_zero, List.set_cons_succ, i64_w, i32_w]
      rfl
    refine take_ (i := 2) (N := some 36) (v := ?_) (a' := ?_) #[true, true, true, false, false, false, false] rfl rfl (by kernel_rfl) (fun _ _ _ h => h) (Or.inl ⟨by rfl, ?_⟩) hHeld ?_ ?_
    rotate_left
    · rintro w' ⟨s0, s1, s2, s3, s4, s5⟩
      go_simp
      with_reducible rfl
    rotate_left
    · simp only [Act.put, List.setIfInBounds_toArray, List.set_cons_zero, List.set_cons_succ, i64_w, i32_w]
      rfl
    refine pure_ (i := 3) (N := some 37) (v := ?_) (a' := ?_) #[true, true, true, true, false, false, false] rfl rfl (by kernel_rfl) (fun _ _ _ h => h) (Or.inl ⟨by rfl, ?_⟩) ?_ ?_
    rotate_left
    · intro w'
      go_simp
      with_reducible rfl
    rotate_left
    · simp only [Act.put, List.setIfInBounds_toArray, List.set_cons_zero, List.set_cons_succ, i64_w, i32_w]
      rfl
    refine one_ (i := 4) (N := some 38) #[true, true, true, true, true, false, false] rfl rfl (by kernel_rfl) (by decide) (fun K hK => ?_)
    rw [if_pos (by rfl)]
    go_simp
    go_at_call 29
    (with_reducible refine (HC2.out _).mono ?_)
    rintro e w1 ⟨rfl, hb⟩
    have F : Fr w w1 [(23, #[.int .i32 a, .int .i32 b]), (23, #[.int .i32 c, .int .i32 d]), (23, #[.int .i32 0, .int .i32 0])] := (by first | exact F.call hb | exact F.drew.call hb | exact (F.drewN _).call hb | exact (F.alloc _).call hb | exact (F.alloc _).drew.call hb)
    have G : Fr w6 w1 [(23, #[.int .i32 j1, .int .i32 j2])] := (by first | exact G.call hb | exact G.drew.call hb | exact (G.drewN _).call hb | exact (G.alloc _).call hb | exact (G.alloc _).drew.call hb)
    have H : Fr w9 w1 [(23, #[.int .i32 nn1, .int .i32 nn2])] := (by first | exact H.call hb | exact H.drew.call hb | exact (H.drewN _).call hb | exact (H.alloc _).call hb | exact (H.alloc _).drew.call hb)
    obtain ⟨p0, q0, f0, g0⟩ := F.pair0 23 _ _ rfl
    obtain ⟨p1, q1, f1, g1⟩ := F.pair1 23 _ _ rfl
    obtain ⟨p2, q2, f2, g2⟩ := F.pair2 23 _ _ rfl
    obtain ⟨gp0, gq0, gf0, gg0⟩ := G.pair0 23 _ _ rfl
    obtain ⟨hp0, hq0, hf0, hg0⟩ := H.pair0 23 _ _ rfl
    refine hK.out _ _ ⟨gp0, gq0, p0, q0, hp0, hq0⟩ (fun hHeld => ?_)
    clear hK K
    refine one_ (i := 5) (N := some 39) #[true, true, true, true, true, true, false] rfl rfl (by kernel_rfl) (by decide) (fun K hK => ?_)
    rw [if_pos (by rfl)]
    go_simp
    go_at_call 11
    (with_reducible refine (HJ2.out _).mono ?_)
    rintro e w1 ⟨rfl, hb⟩
    have F : Fr w w1 [(23, #[.int .i32 a, .int .i32 b]), (23, #[.int .i32 c, .int .i32 d]), (23, #[.int .i32 0, .int .i32 0])] := (by first | exact F.call hb | exact F.drew.call hb | exact (F.drewN _).call hb | exact (F.alloc _).call hb | exact (F.alloc _).drew.call hb)
    have G : Fr w6 w1 [(23, #[.int .i32 j1, .int .i32 j2])] := (by first | exact G.call hb | exact G.drew.call hb | exact (G.drewN _).call hb | exact (G.alloc _).call hb | exact (G.alloc _).drew.call hb)
    have H : Fr w9 w1 [(23, #[.int .i32 nn1, .int .i32 nn2])] := (by first | exact H.call hb | exact H.drew.call hb | exact (H.drewN _).call hb | exact (H.alloc _).call hb | exact (H.alloc _).drew.call hb)
    obtain ⟨p0, q0, f0, g0⟩ := F.pair0 23 _ _ rfl
    obtain ⟨p1, q1, f1, g1⟩ := F.pair1 23 _ _ rfl
    obtain ⟨p2, q2, f2, g2⟩ := F.pair2 23 _ _ rfl
    obtain ⟨gp0, gq0, gf0, gg0⟩ := G.pair0 23 _ _ rfl
    obtain ⟨hp0, hq0, hf0, hg0⟩ := H.pair0 23 _ _ rfl
    refine hK.out _ _ ⟨gp0, gq0, p0, q0, hp0, hq0⟩ (fun hHeld => ?_)
    clear hK K
    refine last_ (i := 6) (N := none) #[true, true, true, true, true, true, true] rfl rfl (by kernel_rfl) (by decide) (fun K hK => ?_)
    rw [if_pos (by rfl)]
    go_simp
    refine hK.out _ _ ?_
    clear hK K
    refine done_ (by kernel_rfl) ?_
    have G := G.put0 23 _ _ rfl (.int .i32 r1) (.int .i32 r2)
    have F := (F.far w6.heap.size 0 (Nat.succ_le_of_lt hsz) (.int .i32 r1)).far w6.heap.size 1 (Nat.succ_le_of_lt hsz) (.int .i32 r2)
    go_wp2
    generalize (w1.setCell ⟨w6.heap.size, 0, none⟩ (.int .i32 r1)).setCell ⟨w6.heap.size, 1, none⟩ (.int .i32 r2) = w10 at *
    obtain ⟨p0, q0, f0, g0⟩ := F.pair0 23 _ _ rfl; obtain ⟨p1, q1, f1, g1⟩ := F.pair1 23 _ _ rfl; obtain ⟨p2, q2, f2, g2⟩ := F.pair2 23 _ _ rfl
    obtain ⟨gp0, gq0, gf0, gg0⟩ := G.pair0 23 _ _ rfl
    clear H
    rw [rounds_succ]
    go_wp2
    have F := F.put2 23 _ _ rfl (.int .i32 r1) (.int .i32 r2)
    exact bodyPost_ret (results_cell_row rfl _ _ (w.heap.size + 1 + 1) 23 #[.int .i32 r1, .int .i32 r2] (0, 0) _ rfl (F.blk2 23 _ rfl) Try.underlying23 rfl (by kernel_rfl)) rfl ⟨rfl, F.below⟩
    
set_option maxRecDepth 100000 in
set_option maxHeartbeats 8000000 in
theorem div_neg (a b c d mm1 mm2 nn1 nn2 k1 k2 j1 j2 : Int) (c0 : (c == 0) = false) (x1 : Bool) (hf1 : ct a b (-2147483648) = x1) (hf2 : (x1 && ct c d (-1)) = false) (hm : ∀ w, Calls Try.prog 12 #[.agg #[.int .i32 c, .int .i32 d], .agg #[.int .i32 (-2147483648), .int .i32 (-1)]] w fun e w' => e = .returned (.agg #[.int .i32 mm1, .int .i32 mm2]) ∧ Below w.heap.size w w') (hq : ∀ w, Calls Try.prog 12 #[.agg #[.int .i32 c, .int .i32 d], .agg #[.int .i32 1, .int .i32 2147483647]] w fun e w' => e = .returned (.agg #[.int .i32 nn1, .int .i32 nn2]) ∧ Below w.heap.size w w') (em : decide (mm1 > mm2) = false) (eq : decide (nn1 > nn2) = true) (hc1 : ∀ w, Calls Try.prog 29 #[.agg #[.int .i32 a, .int .i32 b], .agg #[.int .i32 mm1, .int .i32 mm2], .func (Fn.func 56) #[] #[]] w fun e w' => e = .returned (.agg #[.int .i32 k1, .int .i32 k2]) ∧ Below w.heap.size w w') (hj1 : ∀ w, Calls Try.prog 11 #[.agg #[.int .i32 1, .int .i32 0], .agg #[.int .i32 k1, .int .i32 k2]] w fun e w' => e = .returned (.agg #[.int .i32 j1, .int .i32 j2]) ∧ Below w.heap.size w w') (w : World) :
    Calls Try.prog 33 #[.agg #[.int .i32 a, .int .i32 b], .agg #[.int .i32 c, .int .i32 d]] w fun e w' => e = .returned (.agg #[.int .i32 j1, .int .i32 j2]) ∧ Below w.heap.size w w' := by
  have HM := Lib.hid hm
  have HQ := Lib.hid hq
  have EM := Lib.hid em
  have EQ := Lib.hid eq
  have HC1 := Lib.hid hc1
  have HJ1 := Lib.hid hj1
  clear hm hq em eq hc1 hj1
  have F := Fr.three w 23 #[.int .i32 a, .int .i32 b] 23 #[.int .i32 c, .int .i32 d] 23 #[.int .i32 0, .int .i32 0]
  obtain ⟨p0, q0, f0, g0⟩ := F.pair0 23 _ _ rfl; obtain ⟨p1, q1, f1, g1⟩ := F.pair1 23 _ _ rfl; obtain ⟨p2, q2, f2, g2⟩ := F.pair2 23 _ _ rfl
  have hu23 := Try.underlying23
  cases x1 with
  | false =>
    have HF1 := Lib.hid hf1
    clear hf1 hf2
    go_enter Try.func33, Try.ntmps33
    go_wp2_with fail
    go_region_held3 (fun w' => w'.cell? ⟨w.heap.size + 1, 0, none⟩ = some (.int .i32 c) ∧ w'.cell? ⟨w.heap.size + 1, 1, none⟩ = some (.int .i32 d))
      (first | go_keep | exact ⟨p1, q1⟩)
      (first | (go_at_call 27; ((with_reducible refine (of_c _ _).mono ?_); rintro e w1 ⟨rfl, hb⟩; have F : Fr w w1 [(23, #[.int .i32 a, .int .i32 b]), (23, #[.int .i32 c, .int .i32 d]), (23, #[.int .i32 0, .int .i32 0])] := (by first | exact F.call hb | exact (F.drewN _).call hb | exact F.drew.call hb | exact (F.alloc _).call hb); obtain ⟨p0, q0, f0, g0⟩ := F.pair0 23 _ _ rfl; obtain ⟨p1, q1, f1, g1⟩ := F.pair1 23 _ _ rfl; obtain ⟨p2, q2, f2, g2⟩ := F.pair2 23 _ _ rfl)))
    go_wp2_with (first | (go_at_call 15; ((with_reducible refine (contains_r a b (-2147483648) _ HF1.out _).mono ?_); rintro e w1 ⟨rfl, hb⟩; have F : Fr w w1 [(23, #[.int .i32 a, .int .i32 b]), (23, #[.int .i32 c, .int .i32 d]), (23, #[.int .i32 0, .int .i32 0])] := (by first | exact F.call hb | exact (F.drewN _).call hb | exact F.drew.call hb | exact (F.alloc _).call hb); obtain ⟨p0, q0, f0, g0⟩ := F.pair0 23 _ _ rfl; obtain ⟨p1, q1, f1, g1⟩ := F.pair1 23 _ _ rfl; obtain ⟨p2, q2, f2, g2⟩ := F.pair2 23 _ _ rfl)) | (go_at_call 18; ((with_reducible refine (empty_c _).mono ?_); rintro e w6 ⟨rfl, hb⟩; have F : Fr w w6 [(23, #[.int .i32 a, .int .i32 b]), (23, #[.int .i32 c, .int .i32 d]), (23, #[.int .i32 0, .int .i32 0])] := (by first | exact F.call hb | exact (F.drewN _).call hb | exact F.drew.call hb | exact (F.alloc _).call hb); obtain ⟨p0, q0, f0, g0⟩ := F.pair0 23 _ _ rfl; obtain ⟨p1, q1, f1, g1⟩ := F.pair1 23 _ _ rfl; obtain ⟨p2, q2, f2, g2⟩ := F.pair2 23 _ _ rfl)))
    have hsz : w.heap.size + 2 < w6.heap.size := F.size 2 _ rfl
    have G := Fr.one w6 23 #[.int .i32 1, .int .i32 0]
    have F := F.alloc (.cells #[.int .i32 1, .int .i32 0] 23 (0, 0))
    obtain ⟨p0, q0, f0, g0⟩ := F.pair0 23 _ _ rfl; obtain ⟨p1, q1, f1, g1⟩ := F.pair1 23 _ _ rfl; obtain ⟨p2, q2, f2, g2⟩ := F.pair2 23 _ _ rfl
    obtain ⟨gp0, gq0, gf0, gg0⟩ := G.pair0 23 _ _ rfl
    go_region_held3 (fun w' => w'.cell? ⟨w.heap.size + 1, 0, none⟩ = some (.int .i32 c) ∧ w'.cell? ⟨w.heap.size + 1, 1, none⟩ = some (.int .i32 d))
      (first | go_keep | exact ⟨p1, q1⟩)
      (first | (go_at_call 12; ((with_reducible refine (HM.out _).mono ?_); rintro e w7 ⟨rfl, hb⟩; have F : Fr w w7 [(23, #[.int .i32 a, .int .i32 b]), (23, #[.int .i32 c, .int .i32 d]), (23, #[.int .i32 0, .int .i32 0])] := (by first | exact F.call hb | exact F.drew.call hb | exact (F.drewN _).call hb | exact (F.alloc _).call hb | exact (F.alloc _).drew.call hb); have G : Fr w6 w7 [(23, #[.int .i32 1, .int .i32 0])] := (by first | exact G.call hb | exact G.drew.call hb | exact (G.drewN _).call hb | exact (G.alloc _).call hb | exact (G.alloc _).drew.call hb); obtain ⟨p0, q0, f0, g0⟩ := F.pair0 23 _ _ rfl; obtain ⟨p1, q1, f1, g1⟩ := F.pair1 23 _ _ rfl; obtain ⟨p2, q2, f2, g2⟩ := F.pair2 23 _ _ rfl; obtain ⟨gp0, gq0, gf0, gg0⟩ := G.pair0 23 _ _ rfl)) | (go_at_call 12; ((with_reducible refine (HQ.out _).mono ?_); rintro e w7 ⟨rfl, hb⟩; have F : Fr w w7 [(23, #[.int .i32 a, .int .i32 b]), (23, #[.int .i32 c, .int .i32 d]), (23, #[.int .i32 0, .int .i32 0])] := (by first | exact F.call hb | exact F.drew.call hb | exact (F.drewN _).call hb | exact (F.alloc _).call hb | exact (F.alloc _).drew.call hb); have G : Fr w6 w7 [(23, #[.int .i32 1, .int .i32 0])] := (by first | exact G.call hb | exact G.drew.call hb | exact (G.drewN _).call hb | exact (G.alloc _).call hb | exact (G.alloc _).drew.call hb); obtain ⟨p0, q0, f0, g0⟩ := F.pair0 23 _ _ rfl; obtain ⟨p1, q1, f1, g1⟩ := F.pair1 23 _ _ rfl; obtain ⟨p2, q2, f2, g2⟩ := F.pair2 23 _ _ rfl; obtain ⟨gp0, gq0, gf0, gg0⟩ := G.pair0 23 _ _ rfl)))
    have i0 : ∀ w, (Instr.index 66 (.agg #[.int .i32 mm1, .int .i32 mm2, .int .i32 nn1, .int .i32 nn2]) (.int .i64 0)).run Try.prog w = .ok (.agg #[.int .i32 mm1, .int .i32 mm2]) w := fun _ => by kernel_rfl
    have i1 : ∀ w, (Instr.index 66 (.agg #[.int .i32 mm1, .int .i32 mm2, .int .i32 nn1, .int .i32 nn2]) (.int .i64 1)).run Try.prog w = .ok (.agg #[.int .i32 nn1, .int .i32 nn2]) w := fun _ => by kernel_rfl
    go_wp2
    refine wp_loop_rounds 3 ?_
    have H := Fr.one w7 23 #[.int .i32 mm1, .int .i32 mm2]
    have F := F.alloc (.cells #[.int .i32 mm1, .int .i32 mm2] 23 (0, 0))
    have G := G.alloc (.cells #[.int .i32 mm1, .int .i32 mm2] 23 (0, 0))
    rw [rounds_succ]
    go_wp2_with (first | (go_at_call 17; ((with_reducible refine (isEmpty_r _ _ _ EM.out _).mono ?_); rintro e w8a ⟨rfl, hb⟩; have F : Fr w w8a [(23, #[.int .i32 a, .int .i32 b]), (23, #[.int .i32 c, .int .i32 d]), (23, #[.int .i32 0, .int .i32 0])] := (by first | exact F.call hb | exact F.drew.call hb | exact (F.drewN _).call hb | exact (F.alloc _).call hb | exact (F.alloc _).drew.call hb); have G : Fr w6 w8a [(23, #[.int .i32 1, .int .i32 0])] := (by first | exact G.call hb | exact G.drew.call hb | exact (G.drewN _).call hb | exact (G.alloc _).call hb | exact (G.alloc _).drew.call hb); have H : Fr w7 w8a [(23, #[.int .i32 mm1, .int .i32 mm2])] := (by first | exact H.call hb | exact H.drew.call hb | exact (H.drewN _).call hb | exact (H.alloc _).call hb | exact (H.alloc _).drew.call hb); obtain ⟨p0, q0, f0, g0⟩ := F.pair0 23 _ _ rfl; obtain ⟨p1, q1, f1, g1⟩ := F.pair1 23 _ _ rfl; obtain ⟨p2, q2, f2, g2⟩ := F.pair2 23 _ _ rfl; obtain ⟨gp0, gq0, gf0, gg0⟩ := G.pair0 23 _ _ rfl; obtain ⟨hp0, hq0, hf0, hg0⟩ := H.pair0 23 _ _ rfl)))
    refine start_ (n := 7) (S := fun w' => w'.cell? ⟨w6.heap.size, 0, none⟩ = some (.int .i32 1) ∧ w'.cell? ⟨w6.heap.size, 1, none⟩ = some (.int .i32 0) ∧ w'.cell? ⟨w.heap.size, 0, none⟩ = some (.int .i32 a) ∧ w'.cell? ⟨w.heap.size, 1, none⟩ = some (.int .i32 b) ∧ w'.cell? ⟨w7.heap.size, 0, none⟩ = some (.int .i32 mm1) ∧ w'.cell? ⟨w7.heap.size, 1, none⟩ = some (.int .i32 mm2)) (ds := [6]) #[false, false, false, false, false, false, false] (by kernel_rfl) rfl rfl ⟨gp0, gq0, p0, q0, hp0, hq0⟩ (fun hHeld => ?_)
    have F := F.drew
    have G := G.drew
    have H := H.drew
    refine take_ (i := 0) (N := some 34) (v := ?_) (a' := ?_) #[true, false, false, false, false, false, false] rfl rfl (by kernel_rfl) (fun _ _ _ h => h) (Or.inl ⟨by rfl, ?_⟩) hHeld ?_ ?_
    rotate_left
    · rintro w' ⟨s0, s1, s2, s3, s4, s5⟩
      go_simp
      with_reducible rfl
    rotate_left
    · simp only [Act.put, List.setIfInBounds_toArray, List.set_cons_zero, List.set_cons_succ, i64_w, i32_w]
      rfl
    refine take_ (i := 1) (N := some 35) (v := ?_) (a' := ?_) #[true, true, false, false, false, false, false] rfl rfl (by kernel_rfl) (fun _ _ _ h => h) (Or.inl ⟨by rfl, ?_⟩) hHeld ?_ ?_
    rotate_left
    · rintro w' ⟨s0, s1, s2, s3, s4, s5⟩
      go_simp
      with_reducible rfl
    rotate_left
    · simp only [Act.put, List.setIfInBounds_toArray, List.set_cons_zero, List.set_cons_succ, i64_w, i32_w]
      rfl
    refine take_ (i := 2) (N := some 36) (v := ?_) (a' := ?_) #[true, true, true, false, false, false, false] rfl rfl (by kernel_rfl) (fun _ _ _ h => h) (Or.inl ⟨by rfl, ?_⟩) hHeld ?_ ?_
    rotate_left
    · rintro w' ⟨s0, s1, s2, s3, s4, s5⟩
      go_simp
      with_reducible rfl
    rotate_left
    · simp only [Act.put, List.setIfInBounds_toArray, List.set_cons_zero, List.set_cons_succ, i64_w, i32_w]
      rfl
    refine pure_ (i := 3) (N := some 37) (v := ?_) (a' := ?_) #[true, true, true, true, false, false, false] rfl rfl (by kernel_rfl) (fun _ _ _ h => h) (Or.inl ⟨by rfl, ?_⟩) ?_ ?_
    rotate_left
    · intro w'
      go_simp
      with_reducible rfl
    rotate_left
    · simp only [Act.put, List.setIfInBounds_toArray, List.set_cons_zero, List.set_cons_succ, i64_w, i32_w]
      rfl
    refine one_ (i := 4) (N := some 38) #[true, true, true, true, true, false, false] rfl rfl (by kernel_rfl) (by decide) (fun K hK => ?_)
    rw [if_pos (by rfl)]
    go_simp
    go_at_call 29
    (with_reducible refine (HC1.out _).mono ?_)
    rintro e w1 ⟨rfl, hb⟩
    have F : Fr w w1 [(23, #[.int .i32 a, .int .i32 b]), (23, #[.int .i32 c, .int .i32 d]), (23, #[.int .i32 0, .int .i32 0])] := (by first | exact F.call hb | exact F.drew.call hb | exact (F.drewN _).call hb | exact (F.alloc _).call hb | exact (F.alloc _).drew.call hb)
    have G : Fr w6 w1 [(23, #[.int .i32 1, .int .i32 0])] := (by first | exact G.call hb | exact G.drew.call hb | exact (G.drewN _).call hb | exact (G.alloc _).call hb | exact (G.alloc _).drew.call hb)
    have H : Fr w7 w1 [(23, #[.int .i32 mm1, .int .i32 mm2])] := (by first | exact H.call hb | exact H.drew.call hb | exact (H.drewN _).call hb | exact (H.alloc _).call hb | exact (H.alloc _).drew.call hb)
    obtain ⟨p0, q0, f0, g0⟩ := F.pair0 23 _ _ rfl
    obtain ⟨p1, q1, f1, g1⟩ := F.pair1 23 _ _ rfl
    obtain ⟨p2, q2, f2, g2⟩ := F.pair2 23 _ _ rfl
    obtain ⟨gp0, gq0, gf0, gg0⟩ := G.pair0 23 _ _ rfl
    obtain ⟨hp0, hq0, hf0, hg0⟩ := H.pair0 23 _ _ rfl
    refine hK.out _ _ ⟨gp0, gq0, p0, q0, hp0, hq0⟩ (fun hHeld => ?_)
    clear hK K
    refine one_ (i := 5) (N := some 39) #[true, true, true, true, true, true, false] rfl rfl (by kernel_rfl) (by decide) (fun K hK => ?_)
    rw [if_pos (by rfl)]
    go_simp
    go_at_call 11
    (with_reducible refine (HJ1.out _).mono ?_)
    rintro e w1 ⟨rfl, hb⟩
    have F : Fr w w1 [(23, #[.int .i32 a, .int .i32 b]), (23, #[.int .i32 c, .int .i32 d]), (23, #[.int .i32 0, .int .i32 0])] := (by first | exact F.call hb | exact F.drew.call hb | exact (F.drewN _).call hb | exact (F.alloc _).call hb | exact (F.alloc _).drew.call hb)
    have G : Fr w6 w1 [(23, #[.int .i32 1, .int .i32 0])] := (by first | exact G.call hb | exact G.drew.call hb | exact (G.drewN _).call hb | exact (G.alloc _).call hb | exact (G.alloc _).drew.call hb)
    have H : Fr w7 w1 [(23, #[.int .i32 mm1, .int .i32 mm2])] := (by first | exact H.call hb | exact H.drew.call hb | exact (H.drewN _).call hb | exact (H.alloc _).call hb | exact (H.alloc _).drew.call hb)
    obtain ⟨p0, q0, f0, g0⟩ := F.pair0 23 _ _ rfl
    obtain ⟨p1, q1, f1, g1⟩ := F.pair1 23 _ _ rfl
    obtain ⟨p2, q2, f2, g2⟩ := F.pair2 23 _ _ rfl
    obtain ⟨gp0, gq0, gf0, gg0⟩ := G.pair0 23 _ _ rfl
    obtain ⟨hp0, hq0, hf0, hg0⟩ := H.pair0 23 _ _ rfl
    refine hK.out _ _ ⟨gp0, gq0, p0, q0, hp0, hq0⟩ (fun hHeld => ?_)
    clear hK K
    refine last_ (i := 6) (N := none) #[true, true, true, true, true, true, true] rfl rfl (by kernel_rfl) (by decide) (fun K hK => ?_)
    rw [if_pos (by rfl)]
    go_simp
    refine hK.out _ _ ?_
    clear hK K
    refine done_ (by kernel_rfl) ?_
    have G := G.put0 23 _ _ rfl (.int .i32 j1) (.int .i32 j2)
    have F := (F.far w6.heap.size 0 (Nat.succ_le_of_lt hsz) (.int .i32 j1)).far w6.heap.size 1 (Nat.succ_le_of_lt hsz) (.int .i32 j2)
    go_wp2
    generalize (w1.setCell ⟨w6.heap.size, 0, none⟩ (.int .i32 j1)).setCell ⟨w6.heap.size, 1, none⟩ (.int .i32 j2) = w9 at *
    obtain ⟨p0, q0, f0, g0⟩ := F.pair0 23 _ _ rfl; obtain ⟨p1, q1, f1, g1⟩ := F.pair1 23 _ _ rfl; obtain ⟨p2, q2, f2, g2⟩ := F.pair2 23 _ _ rfl
    obtain ⟨gp0, gq0, gf0, gg0⟩ := G.pair0 23 _ _ rfl
    clear H
    have H := Fr.one w9 23 #[.int .i32 nn1, .int .i32 nn2]
    have F := F.alloc (.cells #[.int .i32 nn1, .int .i32 nn2] 23 (0, 0))
    have G := G.alloc (.cells #[.int .i32 nn1, .int .i32 nn2] 23 (0, 0))
    rw [rounds_succ]
    go_wp2_with (first | (go_at_call 17; ((with_reducible refine (isEmpty_r _ _ _ EQ.out _).mono ?_); rintro e w8b ⟨rfl, hb⟩; have F : Fr w w8b [(23, #[.int .i32 a, .int .i32 b]), (23, #[.int .i32 c, .int .i32 d]), (23, #[.int .i32 0, .int .i32 0])] := (by first | exact F.call hb | exact F.drew.call hb | exact (F.drewN _).call hb | exact (F.alloc _).call hb | exact (F.alloc _).drew.call hb); have G : Fr w6 w8b [(23, #[.int .i32 j1, .int .i32 j2])] := (by first | exact G.call hb | exact G.drew.call hb | exact (G.drewN _).call hb | exact (G.alloc _).call hb | exact (G.alloc _).drew.call hb); have H : Fr w9 w8b [(23, #[.int .i32 nn1, .int .i32 nn2])] := (by first | exact H.call hb | exact H.drew.call hb | exact (H.drewN _).call hb | exact (H.alloc _).call hb | exact (H.alloc _).drew.call hb); obtain ⟨p0, q0, f0, g0⟩ := F.pair0 23 _ _ rfl; obtain ⟨p1, q1, f1, g1⟩ := F.pair1 23 _ _ rfl; obtain ⟨p2, q2, f2, g2⟩ := F.pair2 23 _ _ rfl; obtain ⟨gp0, gq0, gf0, gg0⟩ := G.pair0 23 _ _ rfl; obtain ⟨hp0, hq0, hf0, hg0⟩ := H.pair0 23 _ _ rfl)))
    obtain ⟨p0, q0, f0, g0⟩ := F.pair0 23 _ _ rfl; obtain ⟨p1, q1, f1, g1⟩ := F.pair1 23 _ _ rfl; obtain ⟨p2, q2, f2, g2⟩ := F.pair2 23 _ _ rfl
    obtain ⟨gp0, gq0, gf0, gg0⟩ := G.pair0 23 _ _ rfl
    clear H
    rw [rounds_succ]
    go_wp2
    have F := F.put2 23 _ _ rfl (.int .i32 j1) (.int .i32 j2)
    exact bodyPost_ret (results_cell_row rfl _ _ (w.heap.size + 1 + 1) 23 #[.int .i32 j1, .int .i32 j2] (0, 0) _ rfl (F.blk2 23 _ rfl) Try.underlying23 rfl (by kernel_rfl)) rfl ⟨rfl, F.below⟩
    
  | true =>
    have HF1 := Lib.hid hf1
    have hf3 : ct c d (-1) = false := by simpa using hf2
    have HF2 := Lib.hid hf3
    clear hf3
    clear hf1 hf2
    go_enter Try.func33, Try.ntmps33
    go_wp2_with fail
    go_region_held3 (fun w' => w'.cell? ⟨w.heap.size + 1, 0, none⟩ = some (.int .i32 c) ∧ w'.cell? ⟨w.heap.size + 1, 1, none⟩ = some (.int .i32 d))
      (first | go_keep | exact ⟨p1, q1⟩)
      (first | (go_at_call 27; ((with_reducible refine (of_c _ _).mono ?_); rintro e w1 ⟨rfl, hb⟩; have F : Fr w w1 [(23, #[.int .i32 a, .int .i32 b]), (23, #[.int .i32 c, .int .i32 d]), (23, #[.int .i32 0, .int .i32 0])] := (by first | exact F.call hb | exact (F.drewN _).call hb | exact F.drew.call hb | exact (F.alloc _).call hb); obtain ⟨p0, q0, f0, g0⟩ := F.pair0 23 _ _ rfl; obtain ⟨p1, q1, f1, g1⟩ := F.pair1 23 _ _ rfl; obtain ⟨p2, q2, f2, g2⟩ := F.pair2 23 _ _ rfl)))
    go_wp2_with (first | (go_at_call 15; ((with_reducible refine (contains_r a b (-2147483648) _ HF1.out _).mono ?_); rintro e w1 ⟨rfl, hb⟩; have F : Fr w w1 [(23, #[.int .i32 a, .int .i32 b]), (23, #[.int .i32 c, .int .i32 d]), (23, #[.int .i32 0, .int .i32 0])] := (by first | exact F.call hb | exact (F.drewN _).call hb | exact F.drew.call hb | exact (F.alloc _).call hb); obtain ⟨p0, q0, f0, g0⟩ := F.pair0 23 _ _ rfl; obtain ⟨p1, q1, f1, g1⟩ := F.pair1 23 _ _ rfl; obtain ⟨p2, q2, f2, g2⟩ := F.pair2 23 _ _ rfl)) | (go_at_call 15; ((with_reducible refine (contains_r c d (-1) _ HF2.out _).mono ?_); rintro e w1 ⟨rfl, hb⟩; have F : Fr w w1 [(23, #[.int .i32 a, .int .i32 b]), (23, #[.int .i32 c, .int .i32 d]), (23, #[.int .i32 0, .int .i32 0])] := (by first | exact F.call hb | exact (F.drewN _).call hb | exact F.drew.call hb | exact (F.alloc _).call hb); obtain ⟨p0, q0, f0, g0⟩ := F.pair0 23 _ _ rfl; obtain ⟨p1, q1, f1, g1⟩ := F.pair1 23 _ _ rfl; obtain ⟨p2, q2, f2, g2⟩ := F.pair2 23 _ _ rfl)) | (go_at_call 18; ((with_reducible refine (empty_c _).mono ?_); rintro e w6 ⟨rfl, hb⟩; have F : Fr w w6 [(23, #[.int .i32 a, .int .i32 b]), (23, #[.int .i32 c, .int .i32 d]), (23, #[.int .i32 0, .int .i32 0])] := (by first | exact F.call hb | exact (F.drewN _).call hb | exact F.drew.call hb | exact (F.alloc _).call hb); obtain ⟨p0, q0, f0, g0⟩ := F.pair0 23 _ _ rfl; obtain ⟨p1, q1, f1, g1⟩ := F.pair1 23 _ _ rfl; obtain ⟨p2, q2, f2, g2⟩ := F.pair2 23 _ _ rfl)))
    have hsz : w.heap.size + 2 < w6.heap.size := F.size 2 _ rfl
    have G := Fr.one w6 23 #[.int .i32 1, .int .i32 0]
    have F := F.alloc (.cells #[.int .i32 1, .int .i32 0] 23 (0, 0))
    obtain ⟨p0, q0, f0, g0⟩ := F.pair0 23 _ _ rfl; obtain ⟨p1, q1, f1, g1⟩ := F.pair1 23 _ _ rfl; obtain ⟨p2, q2, f2, g2⟩ := F.pair2 23 _ _ rfl
    obtain ⟨gp0, gq0, gf0, gg0⟩ := G.pair0 23 _ _ rfl
    go_region_held3 (fun w' => w'.cell? ⟨w.heap.size + 1, 0, none⟩ = some (.int .i32 c) ∧ w'.cell? ⟨w.heap.size + 1, 1, none⟩ = some (.int .i32 d))
      (first | go_keep | exact ⟨p1, q1⟩)
      (first | (go_at_call 12; ((with_reducible refine (HM.out _).mono ?_); rintro e w7 ⟨rfl, hb⟩; have F : Fr w w7 [(23, #[.int .i32 a, .int .i32 b]), (23, #[.int .i32 c, .int .i32 d]), (23, #[.int .i32 0, .int .i32 0])] := (by first | exact F.call hb | exact F.drew.call hb | exact (F.drewN _).call hb | exact (F.alloc _).call hb | exact (F.alloc _).drew.call hb); have G : Fr w6 w7 [(23, #[.int .i32 1, .int .i32 0])] := (by first | exact G.call hb | exact G.drew.call hb | exact (G.drewN _).call hb | exact (G.alloc _).call hb | exact (G.alloc _).drew.call hb); obtain ⟨p0, q0, f0, g0⟩ := F.pair0 23 _ _ rfl; obtain ⟨p1, q1, f1, g1⟩ := F.pair1 23 _ _ rfl; obtain ⟨p2, q2, f2, g2⟩ := F.pair2 23 _ _ rfl; obtain ⟨gp0, gq0, gf0, gg0⟩ := G.pair0 23 _ _ rfl)) | (go_at_call 12; ((with_reducible refine (HQ.out _).mono ?_); rintro e w7 ⟨rfl, hb⟩; have F : Fr w w7 [(23, #[.int .i32 a, .int .i32 b]), (23, #[.int .i32 c, .int .i32 d]), (23, #[.int .i32 0, .int .i32 0])] := (by first | exact F.call hb | exact F.drew.call hb | exact (F.drewN _).call hb | exact (F.alloc _).call hb | exact (F.alloc _).drew.call hb); have G : Fr w6 w7 [(23, #[.int .i32 1, .int .i32 0])] := (by first | exact G.call hb | exact G.drew.call hb | exact (G.drewN _).call hb | exact (G.alloc _).call hb | exact (G.alloc _).drew.call hb); obtain ⟨p0, q0, f0, g0⟩ := F.pair0 23 _ _ rfl; obtain ⟨p1, q1, f1, g1⟩ := F.pair1 23 _ _ rfl; obtain ⟨p2, q2, f2, g2⟩ := F.pair2 23 _ _ rfl; obtain ⟨gp0, gq0, gf0, gg0⟩ := G.pair0 23 _ _ rfl)))
    have i0 : ∀ w, (Instr.index 66 (.agg #[.int .i32 mm1, .int .i32 mm2, .int .i32 nn1, .int .i32 nn2]) (.int .i64 0)).run Try.prog w = .ok (.agg #[.int .i32 mm1, .int .i32 mm2]) w := fun _ => by kernel_rfl
    have i1 : ∀ w, (Instr.index 66 (.agg #[.int .i32 mm1, .int .i32 mm2, .int .i32 nn1, .int .i32 nn2]) (.int .i64 1)).run Try.prog w = .ok (.agg #[.int .i32 nn1, .int .i32 nn2]) w := fun _ => by kernel_rfl
    go_wp2
    refine wp_loop_rounds 3 ?_
    have H := Fr.one w7 23 #[.int .i32 mm1, .int .i32 mm2]
    have F := F.alloc (.cells #[.int .i32 mm1, .int .i32 mm2] 23 (0, 0))
    have G := G.alloc (.cells #[.int .i32 mm1, .int .i32 mm2] 23 (0, 0))
    rw [rounds_succ]
    go_wp2_with (first | (go_at_call 17; ((with_reducible refine (isEmpty_r _ _ _ EM.out _).mono ?_); rintro e w8a ⟨rfl, hb⟩; have F : Fr w w8a [(23, #[.int .i32 a, .int .i32 b]), (23, #[.int .i32 c, .int .i32 d]), (23, #[.int .i32 0, .int .i32 0])] := (by first | exact F.call hb | exact F.drew.call hb | exact (F.drewN _).call hb | exact (F.alloc _).call hb | exact (F.alloc _).drew.call hb); have G : Fr w6 w8a [(23, #[.int .i32 1, .int .i32 0])] := (by first | exact G.call hb | exact G.drew.call hb | exact (G.drewN _).call hb | exact (G.alloc _).call hb | exact (G.alloc _).drew.call hb); have H : Fr w7 w8a [(23, #[.int .i32 mm1, .int .i32 mm2])] := (by first | exact H.call hb | exact H.drew.call hb | exact (H.drewN _).call hb | exact (H.alloc _).call hb | exact (H.alloc _).drew.call hb); obtain ⟨p0, q0, f0, g0⟩ := F.pair0 23 _ _ rfl; obtain ⟨p1, q1, f1, g1⟩ := F.pair1 23 _ _ rfl; obtain ⟨p2, q2, f2, g2⟩ := F.pair2 23 _ _ rfl; obtain ⟨gp0, gq0, gf0, gg0⟩ := G.pair0 23 _ _ rfl; obtain ⟨hp0, hq0, hf0, hg0⟩ := H.pair0 23 _ _ rfl)))
    refine start_ (n := 7) (S := fun w' => w'.cell? ⟨w6.heap.size, 0, none⟩ = some (.int .i32 1) ∧ w'.cell? ⟨w6.heap.size, 1, none⟩ = some (.int .i32 0) ∧ w'.cell? ⟨w.heap.size, 0, none⟩ = some (.int .i32 a) ∧ w'.cell? ⟨w.heap.size, 1, none⟩ = some (.int .i32 b) ∧ w'.cell? ⟨w7.heap.size, 0, none⟩ = some (.int .i32 mm1) ∧ w'.cell? ⟨w7.heap.size, 1, none⟩ = some (.int .i32 mm2)) (ds := [6]) #[false, false, false, false, false, false, false] (by kernel_rfl) rfl rfl ⟨gp0, gq0, p0, q0, hp0, hq0⟩ (fun hHeld => ?_)
    have F := F.drew
    have G := G.drew
    have H := H.drew
    refine take_ (i := 0) (N := some 34) (v := ?_) (a' := ?_) #[true, false, false, false, false, false, false] rfl rfl (by kernel_rfl) (fun _ _ _ h => h) (Or.inl ⟨by rfl, ?_⟩) hHeld ?_ ?_
    rotate_left
    · rintro w' ⟨s0, s1, s2, s3, s4, s5⟩
      go_simp
      with_reducible rfl
    rotate_left
    · simp only [Act.put, List.setIfInBounds_toArray, List.set_cons_zero, List.set_cons_succ, i64_w, i32_w]
      rfl
    refine take_ (i := 1) (N := some 35) (v := ?_) (a' := ?_) #[true, true, false, false, false, false, false] rfl rfl (by kernel_rfl) (fun _ _ _ h => h) (Or.inl ⟨by rfl, ?_⟩) hHeld ?_ ?_
    rotate_left
    · rintro w' ⟨s0, s1, s2, s3, s4, s5⟩
      go_simp
      with_reducible rfl
    rotate_left
    · simp only [Act.put, List.setIfInBounds_toArray, List.set_cons_zero, List.set_cons_succ, i64_w, i32_w]
      rfl
    refine take_ (i := 2) (N := some 36) (v := ?_) (a' := ?_) #[true, true, true, false, false, false, false] rfl rfl (by kernel_rfl) (fun _ _ _ h => h) (Or.inl ⟨by rfl, ?_⟩) hHeld ?_ ?_
    rotate_left
    · rintro w' ⟨s0, s1, s2, s3, s4, s5⟩
      go_simp
      with_reducible rfl
    rotate_left
    · simp only [Act.put, List.setIfInBounds_toArray, List.set_cons_zero, List.set_cons_succ, i64_w, i32_w]
      rfl
    refine pure_ (i := 3) (N := some 37) (v := ?_) (a' := ?_) #[true, true, true, true, false, false, false] rfl rfl (by kernel_rfl) (fun _ _ _ h => h) (Or.inl ⟨by rfl, ?_⟩) ?_ ?_
    rotate_left
    · intro w'
      go_simp
      with_reducible rfl
    rotate_left
    · simp only [Act.put, List.setIfInBounds_toArray, List.set_cons_zero, List.set_cons_succ, i64_w, i32_w]
      rfl
    refine one_ (i := 4) (N := some 38) #[true, true, true, true, true, false, false] rfl rfl (by kernel_rfl) (by decide) (fun K hK => ?_)
    rw [if_pos (by rfl)]
    go_simp
    go_at_call 29
    (with_reducible refine (HC1.out _).mono ?_)
    rintro e w1 ⟨rfl, hb⟩
    have F : Fr w w1 [(23, #[.int .i32 a, .int .i32 b]), (23, #[.int .i32 c, .int .i32 d]), (23, #[.int .i32 0, .int .i32 0])] := (by first | exact F.call hb | exact F.drew.call hb | exact (F.drewN _).call hb | exact (F.alloc _).call hb | exact (F.alloc _).drew.call hb)
    have G : Fr w6 w1 [(23, #[.int .i32 1, .int .i32 0])] := (by first | exact G.call hb | exact G.drew.call hb | exact (G.drewN _).call hb | exact (G.alloc _).call hb | exact (G.alloc _).drew.call hb)
    have H : Fr w7 w1 [(23, #[.int .i32 mm1, .int .i32 mm2])] := (by first | exact H.call hb | exact H.drew.call hb | exact (H.drewN _).call hb | exact (H.alloc _).call hb | exact (H.alloc _).drew.call hb)
    obtain ⟨p0, q0, f0, g0⟩ := F.pair0 23 _ _ rfl
    obtain ⟨p1, q1, f1, g1⟩ := F.pair1 23 _ _ rfl
    obtain ⟨p2, q2, f2, g2⟩ := F.pair2 23 _ _ rfl
    obtain ⟨gp0, gq0, gf0, gg0⟩ := G.pair0 23 _ _ rfl
    obtain ⟨hp0, hq0, hf0, hg0⟩ := H.pair0 23 _ _ rfl
    refine hK.out _ _ ⟨gp0, gq0, p0, q0, hp0, hq0⟩ (fun hHeld => ?_)
    clear hK K
    refine one_ (i := 5) (N := some 39) #[true, true, true, true, true, true, false] rfl rfl (by kernel_rfl) (by decide) (fun K hK => ?_)
    rw [if_pos (by rfl)]
    go_simp
    go_at_call 11
    (with_reducible refine (HJ1.out _).mono ?_)
    rintro e w1 ⟨rfl, hb⟩
    have F : Fr w w1 [(23, #[.int .i32 a, .int .i32 b]), (23, #[.int .i32 c, .int .i32 d]), (23, #[.int .i32 0, .int .i32 0])] := (by first | exact F.call hb | exact F.drew.call hb | exact (F.drewN _).call hb | exact (F.alloc _).call hb | exact (F.alloc _).drew.call hb)
    have G : Fr w6 w1 [(23, #[.int .i32 1, .int .i32 0])] := (by first | exact G.call hb | exact G.drew.call hb | exact (G.drewN _).call hb | exact (G.alloc _).call hb | exact (G.alloc _).drew.call hb)
    have H : Fr w7 w1 [(23, #[.int .i32 mm1, .int .i32 mm2])] := (by first | exact H.call hb | exact H.drew.call hb | exact (H.drewN _).call hb | exact (H.alloc _).call hb | exact (H.alloc _).drew.call hb)
    obtain ⟨p0, q0, f0, g0⟩ := F.pair0 23 _ _ rfl
    obtain ⟨p1, q1, f1, g1⟩ := F.pair1 23 _ _ rfl
    obtain ⟨p2, q2, f2, g2⟩ := F.pair2 23 _ _ rfl
    obtain ⟨gp0, gq0, gf0, gg0⟩ := G.pair0 23 _ _ rfl
    obtain ⟨hp0, hq0, hf0, hg0⟩ := H.pair0 23 _ _ rfl
    refine hK.out _ _ ⟨gp0, gq0, p0, q0, hp0, hq0⟩ (fun hHeld => ?_)
    clear hK K
    refine last_ (i := 6) (N := none) #[true, true, true, true, true, true, true] rfl rfl (by kernel_rfl) (by decide) (fun K hK => ?_)
    rw [if_pos (by rfl)]
    go_simp
    refine hK.out _ _ ?_
    clear hK K
    refine done_ (by kernel_rfl) ?_
    have G := G.put0 23 _ _ rfl (.int .i32 j1) (.int .i32 j2)
    have F := (F.far w6.heap.size 0 (Nat.succ_le_of_lt hsz) (.int .i32 j1)).far w6.heap.size 1 (Nat.succ_le_of_lt hsz) (.int .i32 j2)
    go_wp2
    generalize (w1.setCell ⟨w6.heap.size, 0, none⟩ (.int .i32 j1)).setCell ⟨w6.heap.size, 1, none⟩ (.int .i32 j2) = w9 at *
    obtain ⟨p0, q0, f0, g0⟩ := F.pair0 23 _ _ rfl; obtain ⟨p1, q1, f1, g1⟩ := F.pair1 23 _ _ rfl; obtain ⟨p2, q2, f2, g2⟩ := F.pair2 23 _ _ rfl
    obtain ⟨gp0, gq0, gf0, gg0⟩ := G.pair0 23 _ _ rfl
    clear H
    have H := Fr.one w9 23 #[.int .i32 nn1, .int .i32 nn2]
    have F := F.alloc (.cells #[.int .i32 nn1, .int .i32 nn2] 23 (0, 0))
    have G := G.alloc (.cells #[.int .i32 nn1, .int .i32 nn2] 23 (0, 0))
    rw [rounds_succ]
    go_wp2_with (first | (go_at_call 17; ((with_reducible refine (isEmpty_r _ _ _ EQ.out _).mono ?_); rintro e w8b ⟨rfl, hb⟩; have F : Fr w w8b [(23, #[.int .i32 a, .int .i32 b]), (23, #[.int .i32 c, .int .i32 d]), (23, #[.int .i32 0, .int .i32 0])] := (by first | exact F.call hb | exact F.drew.call hb | exact (F.drewN _).call hb | exact (F.alloc _).call hb | exact (F.alloc _).drew.call hb); have G : Fr w6 w8b [(23, #[.int .i32 j1, .int .i32 j2])] := (by first | exact G.call hb | exact G.drew.call hb | exact (G.drewN _).call hb | exact (G.alloc _).call hb | exact (G.alloc _).drew.call hb); have H : Fr w9 w8b [(23, #[.int .i32 nn1, .int .i32 nn2])] := (by first | exact H.call hb | exact H.drew.call hb | exact (H.drewN _).call hb | exact (H.alloc _).call hb | exact (H.alloc _).drew.call hb); obtain ⟨p0, q0, f0, g0⟩ := F.pair0 23 _ _ rfl; obtain ⟨p1, q1, f1, g1⟩ := F.pair1 23 _ _ rfl; obtain ⟨p2, q2, f2, g2⟩ := F.pair2 23 _ _ rfl; obtain ⟨gp0, gq0, gf0, gg0⟩ := G.pair0 23 _ _ rfl; obtain ⟨hp0, hq0, hf0, hg0⟩ := H.pair0 23 _ _ rfl)))
    obtain ⟨p0, q0, f0, g0⟩ := F.pair0 23 _ _ rfl; obtain ⟨p1, q1, f1, g1⟩ := F.pair1 23 _ _ rfl; obtain ⟨p2, q2, f2, g2⟩ := F.pair2 23 _ _ rfl
    obtain ⟨gp0, gq0, gf0, gg0⟩ := G.pair0 23 _ _ rfl
    clear H
    rw [rounds_succ]
    go_wp2
    have F := F.put2 23 _ _ rfl (.int .i32 j1) (.int .i32 j2)
    exact bodyPost_ret (results_cell_row rfl _ _ (w.heap.size + 1 + 1) 23 #[.int .i32 j1, .int .i32 j2] (0, 0) _ rfl (F.blk2 23 _ rfl) Try.underlying23 rfl (by kernel_rfl)) rfl ⟨rfl, F.below⟩
    
set_option maxRecDepth 100000 in
set_option maxHeartbeats 8000000 in
theorem div_pos (a b c d mm1 mm2 nn1 nn2 l1 l2 r1 r2 : Int) (c0 : (c == 0) = false) (x1 : Bool) (hf1 : ct a b (-2147483648) = x1) (hf2 : (x1 && ct c d (-1)) = false) (hm : ∀ w, Calls Try.prog 12 #[.agg #[.int .i32 c, .int .i32 d], .agg #[.int .i32 (-2147483648), .int .i32 (-1)]] w fun e w' => e = .returned (.agg #[.int .i32 mm1, .int .i32 mm2]) ∧ Below w.heap.size w w') (hq : ∀ w, Calls Try.prog 12 #[.agg #[.int .i32 c, .int .i32 d], .agg #[.int .i32 1, .int .i32 2147483647]] w fun e w' => e = .returned (.agg #[.int .i32 nn1, .int .i32 nn2]) ∧ Below w.heap.size w w') (em : decide (mm1 > mm2) = true) (eq : decide (nn1 > nn2) = false) (hc2 : ∀ w, Calls Try.prog 29 #[.agg #[.int .i32 a, .int .i32 b], .agg #[.int .i32 nn1, .int .i32 nn2], .func (Fn.func 56) #[] #[]] w fun e w' => e = .returned (.agg #[.int .i32 l1, .int .i32 l2]) ∧ Below w.heap.size w w') (hj2 : ∀ w, Calls Try.prog 11 #[.agg #[.int .i32 1, .int .i32 0], .agg #[.int .i32 l1, .int .i32 l2]] w fun e w' => e = .returned (.agg #[.int .i32 r1, .int .i32 r2]) ∧ Below w.heap.size w w') (w : World) :
    Calls Try.prog 33 #[.agg #[.int .i32 a, .int .i32 b], .agg #[.int .i32 c, .int .i32 d]] w fun e w' => e = .returned (.agg #[.int .i32 r1, .int .i32 r2]) ∧ Below w.heap.size w w' := by
  have HM := Lib.hid hm
  have HQ := Lib.hid hq
  have EM := Lib.hid em
  have EQ := Lib.hid eq
  have HC2 := Lib.hid hc2
  have HJ2 := Lib.hid hj2
  clear hm hq em eq hc2 hj2
  have F := Fr.three w 23 #[.int .i32 a, .int .i32 b] 23 #[.int .i32 c, .int .i32 d] 23 #[.int .i32 0, .int .i32 0]
  obtain ⟨p0, q0, f0, g0⟩ := F.pair0 23 _ _ rfl; obtain ⟨p1, q1, f1, g1⟩ := F.pair1 23 _ _ rfl; obtain ⟨p2, q2, f2, g2⟩ := F.pair2 23 _ _ rfl
  have hu23 := Try.underlying23
  cases x1 with
  | false =>
    have HF1 := Lib.hid hf1
    clear hf1 hf2
    go_enter Try.func33, Try.ntmps33
    go_wp2_with fail
    go_region_held3 (fun w' => w'.cell? ⟨w.heap.size + 1, 0, none⟩ = some (.int .i32 c) ∧ w'.cell? ⟨w.heap.size + 1, 1, none⟩ = some (.int .i32 d))
      (first | go_keep | exact ⟨p1, q1⟩)
      (first | (go_at_call 27; ((with_reducible refine (of_c _ _).mono ?_); rintro e w1 ⟨rfl, hb⟩; have F : Fr w w1 [(23, #[.int .i32 a, .int .i32 b]), (23, #[.int .i32 c, .int .i32 d]), (23, #[.int .i32 0, .int .i32 0])] := (by first | exact F.call hb | exact (F.drewN _).call hb | exact F.drew.call hb | exact (F.alloc _).call hb); obtain ⟨p0, q0, f0, g0⟩ := F.pair0 23 _ _ rfl; obtain ⟨p1, q1, f1, g1⟩ := F.pair1 23 _ _ rfl; obtain ⟨p2, q2, f2, g2⟩ := F.pair2 23 _ _ rfl)))
    go_wp2_with (first | (go_at_call 15; ((with_reducible refine (contains_r a b (-2147483648) _ HF1.out _).mono ?_); rintro e w1 ⟨rfl, hb⟩; have F : Fr w w1 [(23, #[.int .i32 a, .int .i32 b]), (23, #[.int .i32 c, .int .i32 d]), (23, #[.int .i32 0, .int .i32 0])] := (by first | exact F.call hb | exact (F.drewN _).call hb | exact F.drew.call hb | exact (F.alloc _).call hb); obtain ⟨p0, q0, f0, g0⟩ := F.pair0 23 _ _ rfl; obtain ⟨p1, q1, f1, g1⟩ := F.pair1 23 _ _ rfl; obtain ⟨p2, q2, f2, g2⟩ := F.pair2 23 _ _ rfl)) | (go_at_call 18; ((with_reducible refine (empty_c _).mono ?_); rintro e w6 ⟨rfl, hb⟩; have F : Fr w w6 [(23, #[.int .i32 a, .int .i32 b]), (23, #[.int .i32 c, .int .i32 d]), (23, #[.int .i32 0, .int .i32 0])] := (by first | exact F.call hb | exact (F.drewN _).call hb | exact F.drew.call hb | exact (F.alloc _).call hb); obtain ⟨p0, q0, f0, g0⟩ := F.pair0 23 _ _ rfl; obtain ⟨p1, q1, f1, g1⟩ := F.pair1 23 _ _ rfl; obtain ⟨p2, q2, f2, g2⟩ := F.pair2 23 _ _ rfl)))
    have hsz : w.heap.size + 2 < w6.heap.size := F.size 2 _ rfl
    have G := Fr.one w6 23 #[.int .i32 1, .int .i32 0]
    have F := F.alloc (.cells #[.int .i32 1, .int .i32 0] 23 (0, 0))
    obtain ⟨p0, q0, f0, g0⟩ := F.pair0 23 _ _ rfl; obtain ⟨p1, q1, f1, g1⟩ := F.pair1 23 _ _ rfl; obtain ⟨p2, q2, f2, g2⟩ := F.pair2 23 _ _ rfl
    obtain ⟨gp0, gq0, gf0, gg0⟩ := G.pair0 23 _ _ rfl
    go_region_held3 (fun w' => w'.cell? ⟨w.heap.size + 1, 0, none⟩ = some (.int .i32 c) ∧ w'.cell? ⟨w.heap.size + 1, 1, none⟩ = some (.int .i32 d))
      (first | go_keep | exact ⟨p1, q1⟩)
      (first | (go_at_call 12; ((with_reducible refine (HM.out _).mono ?_); rintro e w7 ⟨rfl, hb⟩; have F : Fr w w7 [(23, #[.int .i32 a, .int .i32 b]), (23, #[.int .i32 c, .int .i32 d]), (23, #[.int .i32 0, .int .i32 0])] := (by first | exact F.call hb | exact F.drew.call hb | exact (F.drewN _).call hb | exact (F.alloc _).call hb | exact (F.alloc _).drew.call hb); have G : Fr w6 w7 [(23, #[.int .i32 1, .int .i32 0])] := (by first | exact G.call hb | exact G.drew.call hb | exact (G.drewN _).call hb | exact (G.alloc _).call hb | exact (G.alloc _).drew.call hb); obtain ⟨p0, q0, f0, g0⟩ := F.pair0 23 _ _ rfl; obtain ⟨p1, q1, f1, g1⟩ := F.pair1 23 _ _ rfl; obtain ⟨p2, q2, f2, g2⟩ := F.pair2 23 _ _ rfl; obtain ⟨gp0, gq0, gf0, gg0⟩ := G.pair0 23 _ _ rfl)) | (go_at_call 12; ((with_reducible refine (HQ.out _).mono ?_); rintro e w7 ⟨rfl, hb⟩; have F : Fr w w7 [(23, #[.int .i32 a, .int .i32 b]), (23, #[.int .i32 c, .int .i32 d]), (23, #[.int .i32 0, .int .i32 0])] := (by first | exact F.call hb | exact F.drew.call hb | exact (F.drewN _).call hb | exact (F.alloc _).call hb | exact (F.alloc _).drew.call hb); have G : Fr w6 w7 [(23, #[.int .i32 1, .int .i32 0])] := (by first | exact G.call hb | exact G.drew.call hb | exact (G.drewN _).call hb | exact (G.alloc _).call hb | exact (G.alloc _).drew.call hb); obtain ⟨p0, q0, f0, g0⟩ := F.pair0 23 _ _ rfl; obtain ⟨p1, q1, f1, g1⟩ := F.pair1 23 _ _ rfl; obtain ⟨p2, q2, f2, g2⟩ := F.pair2 23 _ _ rfl; obtain ⟨gp0, gq0, gf0, gg0⟩ := G.pair0 23 _ _ rfl)))
    have i0 : ∀ w, (Instr.index 66 (.agg #[.int .i32 mm1, .int .i32 mm2, .int .i32 nn1, .int .i32 nn2]) (.int .i64 0)).run Try.prog w = .ok (.agg #[.int .i32 mm1, .int .i32 mm2]) w := fun _ => by kernel_rfl
    have i1 : ∀ w, (Instr.index 66 (.agg #[.int .i32 mm1, .int .i32 mm2, .int .i32 nn1, .int .i32 nn2]) (.int .i64 1)).run Try.prog w = .ok (.agg #[.int .i32 nn1, .int .i32 nn2]) w := fun _ => by kernel_rfl
    go_wp2
    refine wp_loop_rounds 3 ?_
    have H := Fr.one w7 23 #[.int .i32 mm1, .int .i32 mm2]
    have F := F.alloc (.cells #[.int .i32 mm1, .int .i32 mm2] 23 (0, 0))
    have G := G.alloc (.cells #[.int .i32 mm1, .int .i32 mm2] 23 (0, 0))
    rw [rounds_succ]
    go_wp2_with (first | (go_at_call 17; ((with_reducible refine (isEmpty_r _ _ _ EM.out _).mono ?_); rintro e w8a ⟨rfl, hb⟩; have F : Fr w w8a [(23, #[.int .i32 a, .int .i32 b]), (23, #[.int .i32 c, .int .i32 d]), (23, #[.int .i32 0, .int .i32 0])] := (by first | exact F.call hb | exact F.drew.call hb | exact (F.drewN _).call hb | exact (F.alloc _).call hb | exact (F.alloc _).drew.call hb); have G : Fr w6 w8a [(23, #[.int .i32 1, .int .i32 0])] := (by first | exact G.call hb | exact G.drew.call hb | exact (G.drewN _).call hb | exact (G.alloc _).call hb | exact (G.alloc _).drew.call hb); have H : Fr w7 w8a [(23, #[.int .i32 mm1, .int .i32 mm2])] := (by first | exact H.call hb | exact H.drew.call hb | exact (H.drewN _).call hb | exact (H.alloc _).call hb | exact (H.alloc _).drew.call hb); obtain ⟨p0, q0, f0, g0⟩ := F.pair0 23 _ _ rfl; obtain ⟨p1, q1, f1, g1⟩ := F.pair1 23 _ _ rfl; obtain ⟨p2, q2, f2, g2⟩ := F.pair2 23 _ _ rfl; obtain ⟨gp0, gq0, gf0, gg0⟩ := G.pair0 23 _ _ rfl; obtain ⟨hp0, hq0, hf0, hg0⟩ := H.pair0 23 _ _ rfl)))
    obtain ⟨p0, q0, f0, g0⟩ := F.pair0 23 _ _ rfl; obtain ⟨p1, q1, f1, g1⟩ := F.pair1 23 _ _ rfl; obtain ⟨p2, q2, f2, g2⟩ := F.pair2 23 _ _ rfl
    obtain ⟨gp0, gq0, gf0, gg0⟩ := G.pair0 23 _ _ rfl
    clear H
    have H := Fr.one w8a 23 #[.int .i32 nn1, .int .i32 nn2]
    have F := F.alloc (.cells #[.int .i32 nn1, .int .i32 nn2] 23 (0, 0))
    have G := G.alloc (.cells #[.int .i32 nn1, .int .i32 nn2] 23 (0, 0))
    rw [rounds_succ]
    go_wp2_with (first | (go_at_call 17; ((with_reducible refine (isEmpty_r _ _ _ EQ.out _).mono ?_); rintro e w8b ⟨rfl, hb⟩; have F : Fr w w8b [(23, #[.int .i32 a, .int .i32 b]), (23, #[.int .i32 c, .int .i32 d]), (23, #[.int .i32 0, .int .i32 0])] := (by first | exact F.call hb | exact F.drew.call hb | exact (F.drewN _).call hb | exact (F.alloc _).call hb | exact (F.alloc _).drew.call hb); have G : Fr w6 w8b [(23, #[.int .i32 1, .int .i32 0])] := (by first | exact G.call hb | exact G.drew.call hb | exact (G.drewN _).call hb | exact (G.alloc _).call hb | exact (G.alloc _).drew.call hb); have H : Fr w8a w8b [(23, #[.int .i32 nn1, .int .i32 nn2])] := (by first | exact H.call hb | exact H.drew.call hb | exact (H.drewN _).call hb | exact (H.alloc _).call hb | exact (H.alloc _).drew.call hb); obtain ⟨p0, q0, f0, g0⟩ := F.pair0 23 _ _ rfl; obtain ⟨p1, q1, f1, g1⟩ := F.pair1 23 _ _ rfl; obtain ⟨p2, q2, f2, g2⟩ := F.pair2 23 _ _ rfl; obtain ⟨gp0, gq0, gf0, gg0⟩ := G.pair0 23 _ _ rfl; obtain ⟨hp0, hq0, hf0, hg0⟩ := H.pair0 23 _ _ rfl)))
    refine start_ (n := 7) (S := fun w' => w'.cell? ⟨w6.heap.size, 0, none⟩ = some (.int .i32 1) ∧ w'.cell? ⟨w6.heap.size, 1, none⟩ = some (.int .i32 0) ∧ w'.cell? ⟨w.heap.size, 0, none⟩ = some (.int .i32 a) ∧ w'.cell? ⟨w.heap.size, 1, none⟩ = some (.int .i32 b) ∧ w'.cell? ⟨w8a.heap.size, 0, none⟩ = some (.int .i32 nn1) ∧ w'.cell? ⟨w8a.heap.size, 1, none⟩ = some (.int .i32 nn2)) (ds := [6]) #[false, false, false, false, false, false, false] (by kernel_rfl) rfl rfl ⟨gp0, gq0, p0, q0, hp0, hq0⟩ (fun hHeld => ?_)
    have F := F.drew
    have G := G.drew
    have H := H.drew
    refine take_ (i := 0) (N := some 34) (v := ?_) (a' := ?_) #[true, false, false, false, false, false, false] rfl rfl (by kernel_rfl) (fun _ _ _ h => h) (Or.inl ⟨by rfl, ?_⟩) hHeld ?_ ?_
    rotate_left
    · rintro w' ⟨s0, s1, s2, s3, s4, s5⟩
      go_simp
      with_reducible rfl
    rotate_left
    · simp only [Act.put, List.setIfInBounds_toArray, List.set_cons_zero, List.set_cons_succ, i64_w, i32_w]
      rfl
    refine take_ (i := 1) (N := some 35) (v := ?_) (a' := ?_) #[true, true, false, false, false, false, false] rfl rfl (by kernel_rfl) (fun _ _ _ h => h) (Or.inl ⟨by rfl, ?_⟩) hHeld ?_ ?_
    rotate_left
    · rintro w' ⟨s0, s1, s2, s3, s4, s5⟩
      go_simp
      with_reducible rfl
    rotate_left
    · simp only [Act.put, List.setIfInBounds_toArray, List.set_cons_zero, List.set_cons_succ, i64_w, i32_w]
      rfl
    refine take_ (i := 2) (N := some 36) (v := ?_) (a' := ?_) #[true, true, true, false, false, false, false] rfl rfl (by kernel_rfl) (fun _ _ _ h => h) (Or.inl ⟨by rfl, ?_⟩) hHeld ?_ ?_
    rotate_left
    · rintro w' ⟨s0, s1, s2, s3, s4, s5⟩
      go_simp
      with_reducible rfl
    rotate_left
    · simp only [Act.put, List.setIfInBounds_toArray, List.set_cons_zero, List.set_cons_succ, i64_w, i32_w]
      rfl
    refine pure_ (i := 3) (N := some 37) (v := ?_) (a' := ?_) #[true, true, true, true, false, false, false] rfl rfl (by kernel_rfl) (fun _ _ _ h => h) (Or.inl ⟨by rfl, ?_⟩) ?_ ?_
    rotate_left
    · intro w'
      go_simp
      with_reducible rfl
    rotate_left
    · simp only [Act.put, List.setIfInBounds_toArray, List.set_cons_zero, List.set_cons_succ, i64_w, i32_w]
      rfl
    refine one_ (i := 4) (N := some 38) #[true, true, true, true, true, false, false] rfl rfl (by kernel_rfl) (by decide) (fun K hK => ?_)
    rw [if_pos (by rfl)]
    go_simp
    go_at_call 29
    (with_reducible refine (HC2.out _).mono ?_)
    rintro e w1 ⟨rfl, hb⟩
    have F : Fr w w1 [(23, #[.int .i32 a, .int .i32 b]), (23, #[.int .i32 c, .int .i32 d]), (23, #[.int .i32 0, .int .i32 0])] := (by first | exact F.call hb | exact F.drew.call hb | exact (F.drewN _).call hb | exact (F.alloc _).call hb | exact (F.alloc _).drew.call hb)
    have G : Fr w6 w1 [(23, #[.int .i32 1, .int .i32 0])] := (by first | exact G.call hb | exact G.drew.call hb | exact (G.drewN _).call hb | exact (G.alloc _).call hb | exact (G.alloc _).drew.call hb)
    have H : Fr w8a w1 [(23, #[.int .i32 nn1, .int .i32 nn2])] := (by first | exact H.call hb | exact H.drew.call hb | exact (H.drewN _).call hb | exact (H.alloc _).call hb | exact (H.alloc _).drew.call hb)
    obtain ⟨p0, q0, f0, g0⟩ := F.pair0 23 _ _ rfl
    obtain ⟨p1, q1, f1, g1⟩ := F.pair1 23 _ _ rfl
    obtain ⟨p2, q2, f2, g2⟩ := F.pair2 23 _ _ rfl
    obtain ⟨gp0, gq0, gf0, gg0⟩ := G.pair0 23 _ _ rfl
    obtain ⟨hp0, hq0, hf0, hg0⟩ := H.pair0 23 _ _ rfl
    refine hK.out _ _ ⟨gp0, gq0, p0, q0, hp0, hq0⟩ (fun hHeld => ?_)
    clear hK K
    refine one_ (i := 5) (N := some 39) #[true, true, true, true, true, true, false] rfl rfl (by kernel_rfl) (by decide) (fun K hK => ?_)
    rw [if_pos (by rfl)]
    go_simp
    go_at_call 11
    (with_reducible refine (HJ2.out _).mono ?_)
    rintro e w1 ⟨rfl, hb⟩
    have F : Fr w w1 [(23, #[.int .i32 a, .int .i32 b]), (23, #[.int .i32 c, .int .i32 d]), (23, #[.int .i32 0, .int .i32 0])] := (by first | exact F.call hb | exact F.drew.call hb | exact (F.drewN _).call hb | exact (F.alloc _).call hb | exact (F.alloc _).drew.call hb)
    have G : Fr w6 w1 [(23, #[.int .i32 1, .int .i32 0])] := (by first | exact G.call hb | exact G.drew.call hb | exact (G.drewN _).call hb | exact (G.alloc _).call hb | exact (G.alloc _).drew.call hb)
    have H : Fr w8a w1 [(23, #[.int .i32 nn1, .int .i32 nn2])] := (by first | exact H.call hb | exact H.drew.call hb | exact (H.drewN _).call hb | exact (H.alloc _).call hb | exact (H.alloc _).drew.call hb)
    obtain ⟨p0, q0, f0, g0⟩ := F.pair0 23 _ _ rfl
    obtain ⟨p1, q1, f1, g1⟩ := F.pair1 23 _ _ rfl
    obtain ⟨p2, q2, f2, g2⟩ := F.pair2 23 _ _ rfl
    obtain ⟨gp0, gq0, gf0, gg0⟩ := G.pair0 23 _ _ rfl
    obtain ⟨hp0, hq0, hf0, hg0⟩ := H.pair0 23 _ _ rfl
    refine hK.out _ _ ⟨gp0, gq0, p0, q0, hp0, hq0⟩ (fun hHeld => ?_)
    clear hK K
    refine last_ (i := 6) (N := none) #[true, true, true, true, true, true, true] rfl rfl (by kernel_rfl) (by decide) (fun K hK => ?_)
    rw [if_pos (by rfl)]
    go_simp
    refine hK.out _ _ ?_
    clear hK K
    refine done_ (by kernel_rfl) ?_
    have G := G.put0 23 _ _ rfl (.int .i32 r1) (.int .i32 r2)
    have F := (F.far w6.heap.size 0 (Nat.succ_le_of_lt hsz) (.int .i32 r1)).far w6.heap.size 1 (Nat.succ_le_of_lt hsz) (.int .i32 r2)
    go_wp2
    generalize (w1.setCell ⟨w6.heap.size, 0, none⟩ (.int .i32 r1)).setCell ⟨w6.heap.size, 1, none⟩ (.int .i32 r2) = w10 at *
    obtain ⟨p0, q0, f0, g0⟩ := F.pair0 23 _ _ rfl; obtain ⟨p1, q1, f1, g1⟩ := F.pair1 23 _ _ rfl; obtain ⟨p2, q2, f2, g2⟩ := F.pair2 23 _ _ rfl
    obtain ⟨gp0, gq0, gf0, gg0⟩ := G.pair0 23 _ _ rfl
    clear H
    rw [rounds_succ]
    go_wp2
    have F := F.put2 23 _ _ rfl (.int .i32 r1) (.int .i32 r2)
    exact bodyPost_ret (results_cell_row rfl _ _ (w.heap.size + 1 + 1) 23 #[.int .i32 r1, .int .i32 r2] (0, 0) _ rfl (F.blk2 23 _ rfl) Try.underlying23 rfl (by kernel_rfl)) rfl ⟨rfl, F.below⟩
    
  | true =>
    have HF1 := Lib.hid hf1
    have hf3 : ct c d (-1) = false := by simpa using hf2
    have HF2 := Lib.hid hf3
    clear hf3
    clear hf1 hf2
    go_enter Try.func33, Try.ntmps33
    go_wp2_with fail
    go_region_held3 (fun w' => w'.cell? ⟨w.heap.size + 1, 0, none⟩ = some (.int .i32 c) ∧ w'.cell? ⟨w.heap.size + 1, 1, none⟩ = some (.int .i32 d))
      (first | go_keep | exact ⟨p1, q1⟩)
      (first | (go_at_call 27; ((with_reducible refine (of_c _ _).mono ?_); rintro e w1 ⟨rfl, hb⟩; have F : Fr w w1 [(23, #[.int .i32 a, .int .i32 b]), (23, #[.int .i32 c, .int .i32 d]), (23, #[.int .i32 0, .int .i32 0])] := (by first | exact F.call hb | exact (F.drewN _).call hb | exact F.drew.call hb | exact (F.alloc _).call hb); obtain ⟨p0, q0, f0, g0⟩ := F.pair0 23 _ _ rfl; obtain ⟨p1, q1, f1, g1⟩ := F.pair1 23 _ _ rfl; obtain ⟨p2, q2, f2, g2⟩ := F.pair2 23 _ _ rfl)))
    go_wp2_with (first | (go_at_call 15; ((with_reducible refine (contains_r a b (-2147483648) _ HF1.out _).mono ?_); rintro e w1 ⟨rfl, hb⟩; have F : Fr w w1 [(23, #[.int .i32 a, .int .i32 b]), (23, #[.int .i32 c, .int .i32 d]), (23, #[.int .i32 0, .int .i32 0])] := (by first | exact F.call hb | exact (F.drewN _).call hb | exact F.drew.call hb | exact (F.alloc _).call hb); obtain ⟨p0, q0, f0, g0⟩ := F.pair0 23 _ _ rfl; obtain ⟨p1, q1, f1, g1⟩ := F.pair1 23 _ _ rfl; obtain ⟨p2, q2, f2, g2⟩ := F.pair2 23 _ _ rfl)) | (go_at_call 15; ((with_reducible refine (contains_r c d (-1) _ HF2.out _).mono ?_); rintro e w1 ⟨rfl, hb⟩; have F : Fr w w1 [(23, #[.int .i32 a, .int .i32 b]), (23, #[.int .i32 c, .int .i32 d]), (23, #[.int .i32 0, .int .i32 0])] := (by first | exact F.call hb | exact (F.drewN _).call hb | exact F.drew.call hb | exact (F.alloc _).call hb); obtain ⟨p0, q0, f0, g0⟩ := F.pair0 23 _ _ rfl; obtain ⟨p1, q1, f1, g1⟩ := F.pair1 23 _ _ rfl; obtain ⟨p2, q2, f2, g2⟩ := F.pair2 23 _ _ rfl)) | (go_at_call 18; ((with_reducible refine (empty_c _).mono ?_); rintro e w6 ⟨rfl, hb⟩; have F : Fr w w6 [(23, #[.int .i32 a, .int .i32 b]), (23, #[.int .i32 c, .int .i32 d]), (23, #[.int .i32 0, .int .i32 0])] := (by first | exact F.call hb | exact (F.drewN _).call hb | exact F.drew.call hb | exact (F.alloc _).call hb); obtain ⟨p0, q0, f0, g0⟩ := F.pair0 23 _ _ rfl; obtain ⟨p1, q1, f1, g1⟩ := F.pair1 23 _ _ rfl; obtain ⟨p2, q2, f2, g2⟩ := F.pair2 23 _ _ rfl)))
    have hsz : w.heap.size + 2 < w6.heap.size := F.size 2 _ rfl
    have G := Fr.one w6 23 #[.int .i32 1, .int .i32 0]
    have F := F.alloc (.cells #[.int .i32 1, .int .i32 0] 23 (0, 0))
    obtain ⟨p0, q0, f0, g0⟩ := F.pair0 23 _ _ rfl; obtain ⟨p1, q1, f1, g1⟩ := F.pair1 23 _ _ rfl; obtain ⟨p2, q2, f2, g2⟩ := F.pair2 23 _ _ rfl
    obtain ⟨gp0, gq0, gf0, gg0⟩ := G.pair0 23 _ _ rfl
    go_region_held3 (fun w' => w'.cell? ⟨w.heap.size + 1, 0, none⟩ = some (.int .i32 c) ∧ w'.cell? ⟨w.heap.size + 1, 1, none⟩ = some (.int .i32 d))
      (first | go_keep | exact ⟨p1, q1⟩)
      (first | (go_at_call 12; ((with_reducible refine (HM.out _).mono ?_); rintro e w7 ⟨rfl, hb⟩; have F : Fr w w7 [(23, #[.int .i32 a, .int .i32 b]), (23, #[.int .i32 c, .int .i32 d]), (23, #[.int .i32 0, .int .i32 0])] := (by first | exact F.call hb | exact F.drew.call hb | exact (F.drewN _).call hb | exact (F.alloc _).call hb | exact (F.alloc _).drew.call hb); have G : Fr w6 w7 [(23, #[.int .i32 1, .int .i32 0])] := (by first | exact G.call hb | exact G.drew.call hb | exact (G.drewN _).call hb | exact (G.alloc _).call hb | exact (G.alloc _).drew.call hb); obtain ⟨p0, q0, f0, g0⟩ := F.pair0 23 _ _ rfl; obtain ⟨p1, q1, f1, g1⟩ := F.pair1 23 _ _ rfl; obtain ⟨p2, q2, f2, g2⟩ := F.pair2 23 _ _ rfl; obtain ⟨gp0, gq0, gf0, gg0⟩ := G.pair0 23 _ _ rfl)) | (go_at_call 12; ((with_reducible refine (HQ.out _).mono ?_); rintro e w7 ⟨rfl, hb⟩; have F : Fr w w7 [(23, #[.int .i32 a, .int .i32 b]), (23, #[.int .i32 c, .int .i32 d]), (23, #[.int .i32 0, .int .i32 0])] := (by first | exact F.call hb | exact F.drew.call hb | exact (F.drewN _).call hb | exact (F.alloc _).call hb | exact (F.alloc _).drew.call hb); have G : Fr w6 w7 [(23, #[.int .i32 1, .int .i32 0])] := (by first | exact G.call hb | exact G.drew.call hb | exact (G.drewN _).call hb | exact (G.alloc _).call hb | exact (G.alloc _).drew.call hb); obtain ⟨p0, q0, f0, g0⟩ := F.pair0 23 _ _ rfl; obtain ⟨p1, q1, f1, g1⟩ := F.pair1 23 _ _ rfl; obtain ⟨p2, q2, f2, g2⟩ := F.pair2 23 _ _ rfl; obtain ⟨gp0, gq0, gf0, gg0⟩ := G.pair0 23 _ _ rfl)))
    have i0 : ∀ w, (Instr.index 66 (.agg #[.int .i32 mm1, .int .i32 mm2, .int .i32 nn1, .int .i32 nn2]) (.int .i64 0)).run Try.prog w = .ok (.agg #[.int .i32 mm1, .int .i32 mm2]) w := fun _ => by kernel_rfl
    have i1 : ∀ w, (Instr.index 66 (.agg #[.int .i32 mm1, .int .i32 mm2, .int .i32 nn1, .int .i32 nn2]) (.int .i64 1)).run Try.prog w = .ok (.agg #[.int .i32 nn1, .int .i32 nn2]) w := fun _ => by kernel_rfl
    go_wp2
    refine wp_loop_rounds 3 ?_
    have H := Fr.one w7 23 #[.int .i32 mm1, .int .i32 mm2]
    have F := F.alloc (.cells #[.int .i32 mm1, .int .i32 mm2] 23 (0, 0))
    have G := G.alloc (.cells #[.int .i32 mm1, .int .i32 mm2] 23 (0, 0))
    rw [rounds_succ]
    go_wp2_with (first | (go_at_call 17; ((with_reducible refine (isEmpty_r _ _ _ EM.out _).mono ?_); rintro e w8a ⟨rfl, hb⟩; have F : Fr w w8a [(23, #[.int .i32 a, .int .i32 b]), (23, #[.int .i32 c, .int .i32 d]), (23, #[.int .i32 0, .int .i32 0])] := (by first | exact F.call hb | exact F.drew.call hb | exact (F.drewN _).call hb | exact (F.alloc _).call hb | exact (F.alloc _).drew.call hb); have G : Fr w6 w8a [(23, #[.int .i32 1, .int .i32 0])] := (by first | exact G.call hb | exact G.drew.call hb | exact (G.drewN _).call hb | exact (G.alloc _).call hb | exact (G.alloc _).drew.call hb); have H : Fr w7 w8a [(23, #[.int .i32 mm1, .int .i32 mm2])] := (by first | exact H.call hb | exact H.drew.call hb | exact (H.drewN _).call hb | exact (H.alloc _).call hb | exact (H.alloc _).drew.call hb); obtain ⟨p0, q0, f0, g0⟩ := F.pair0 23 _ _ rfl; obtain ⟨p1, q1, f1, g1⟩ := F.pair1 23 _ _ rfl; obtain ⟨p2, q2, f2, g2⟩ := F.pair2 23 _ _ rfl; obtain ⟨gp0, gq0, gf0, gg0⟩ := G.pair0 23 _ _ rfl; obtain ⟨hp0, hq0, hf0, hg0⟩ := H.pair0 23 _ _ rfl)))
    obtain ⟨p0, q0, f0, g0⟩ := F.pair0 23 _ _ rfl; obtain ⟨p1, q1, f1, g1⟩ := F.pair1 23 _ _ rfl; obtain ⟨p2, q2, f2, g2⟩ := F.pair2 23 _ _ rfl
    obtain ⟨gp0, gq0, gf0, gg0⟩ := G.pair0 23 _ _ rfl
    clear H
    have H := Fr.one w8a 23 #[.int .i32 nn1, .int .i32 nn2]
    have F := F.alloc (.cells #[.int .i32 nn1, .int .i32 nn2] 23 (0, 0))
    have G := G.alloc (.cells #[.int .i32 nn1, .int .i32 nn2] 23 (0, 0))
    rw [rounds_succ]
    go_wp2_with (first | (go_at_call 17; ((with_reducible refine (isEmpty_r _ _ _ EQ.out _).mono ?_); rintro e w8b ⟨rfl, hb⟩; have F : Fr w w8b [(23, #[.int .i32 a, .int .i32 b]), (23, #[.int .i32 c, .int .i32 d]), (23, #[.int .i32 0, .int .i32 0])] := (by first | exact F.call hb | exact F.drew.call hb | exact (F.drewN _).call hb | exact (F.alloc _).call hb | exact (F.alloc _).drew.call hb); have G : Fr w6 w8b [(23, #[.int .i32 1, .int .i32 0])] := (by first | exact G.call hb | exact G.drew.call hb | exact (G.drewN _).call hb | exact (G.alloc _).call hb | exact (G.alloc _).drew.call hb); have H : Fr w8a w8b [(23, #[.int .i32 nn1, .int .i32 nn2])] := (by first | exact H.call hb | exact H.drew.call hb | exact (H.drewN _).call hb | exact (H.alloc _).call hb | exact (H.alloc _).drew.call hb); obtain ⟨p0, q0, f0, g0⟩ := F.pair0 23 _ _ rfl; obtain ⟨p1, q1, f1, g1⟩ := F.pair1 23 _ _ rfl; obtain ⟨p2, q2, f2, g2⟩ := F.pair2 23 _ _ rfl; obtain ⟨gp0, gq0, gf0, gg0⟩ := G.pair0 23 _ _ rfl; obtain ⟨hp0, hq0, hf0, hg0⟩ := H.pair0 23 _ _ rfl)))
    refine start_ (n := 7) (S := fun w' => w'.cell? ⟨w6.heap.size, 0, none⟩ = some (.int .i32 1) ∧ w'.cell? ⟨w6.heap.size, 1, none⟩ = some (.int .i32 0) ∧ w'.cell? ⟨w.heap.size, 0, none⟩ = some (.int .i32 a) ∧ w'.cell? ⟨w.heap.size, 1, none⟩ = some (.int .i32 b) ∧ w'.cell? ⟨w8a.heap.size, 0, none⟩ = some (.int .i32 nn1) ∧ w'.cell? ⟨w8a.heap.size, 1, none⟩ = some (.int .i32 nn2)) (ds := [6]) #[false, false, false, false, false, false, false] (by kernel_rfl) rfl rfl ⟨gp0, gq0, p0, q0, hp0, hq0⟩ (fun hHeld => ?_)
    have F := F.drew
    have G := G.drew
    have H := H.drew
    refine take_ (i := 0) (N := some 34) (v := ?_) (a' := ?_) #[true, false, false, false, false, false, false] rfl rfl (by kernel_rfl) (fun _ _ _ h => h) (Or.inl ⟨by rfl, ?_⟩) hHeld ?_ ?_
    rotate_left
    · rintro w' ⟨s0, s1, s2, s3, s4, s5⟩
      go_simp
      with_reducible rfl
    rotate_left
    · simp only [Act.put, List.setIfInBounds_toArray, List.set_cons_zero, List.set_cons_succ, i64_w, i32_w]
      rfl
    refine take_ (i := 1) (N := some 35) (v := ?_) (a' := ?_) #[true, true, false, false, false, false, false] rfl rfl (by kernel_rfl) (fun _ _ _ h => h) (Or.inl ⟨by rfl, ?_⟩) hHeld ?_ ?_
    rotate_left
    · rintro w' ⟨s0, s1, s2, s3, s4, s5⟩
      go_simp
      with_reducible rfl
    rotate_left
    · simp only [Act.put, List.setIfInBounds_toArray, List.set_cons_zero, List.set_cons_succ, i64_w, i32_w]
      rfl
    refine take_ (i := 2) (N := some 36) (v := ?_) (a' := ?_) #[true, true, true, false, false, false, false] rfl rfl (by kernel_rfl) (fun _ _ _ h => h) (Or.inl ⟨by rfl, ?_⟩) hHeld ?_ ?_
    rotate_left
    · rintro w' ⟨s0, s1, s2, s3, s4, s5⟩
      go_simp
      with_reducible rfl
    rotate_left
    · simp only [Act.put, List.setIfInBounds_toArray, List.set_cons_zero, List.set_cons_succ, i64_w, i32_w]
      rfl
    refine pure_ (i := 3) (N := some 37) (v := ?_) (a' := ?_) #[true, true, true, true, false, false, false] rfl rfl (by kernel_rfl) (fun _ _ _ h => h) (Or.inl ⟨by rfl, ?_⟩) ?_ ?_
    rotate_left
    · intro w'
      go_simp
      with_reducible rfl
    rotate_left
    · simp only [Act.put, List.setIfInBounds_toArray, List.set_cons_zero, List.set_cons_succ, i64_w, i32_w]
      rfl
    refine one_ (i := 4) (N := some 38) #[true, true, true, true, true, false, false] rfl rfl (by kernel_rfl) (by decide) (fun K hK => ?_)
    rw [if_pos (by rfl)]
    go_simp
    go_at_call 29
    (with_reducible refine (HC2.out _).mono ?_)
    rintro e w1 ⟨rfl, hb⟩
    have F : Fr w w1 [(23, #[.int .i32 a, .int .i32 b]), (23, #[.int .i32 c, .int .i32 d]), (23, #[.int .i32 0, .int .i32 0])] := (by first | exact F.call hb | exact F.drew.call hb | exact (F.drewN _).call hb | exact (F.alloc _).call hb | exact (F.alloc _).drew.call hb)
    have G : Fr w6 w1 [(23, #[.int .i32 1, .int .i32 0])] := (by first | exact G.call hb | exact G.drew.call hb | exact (G.drewN _).call hb | exact (G.alloc _).call hb | exact (G.alloc _).drew.call hb)
    have H : Fr w8a w1 [(23, #[.int .i32 nn1, .int .i32 nn2])] := (by first | exact H.call hb | exact H.drew.call hb | exact (H.drewN _).call hb | exact (H.alloc _).call hb | exact (H.alloc _).drew.call hb)
    obtain ⟨p0, q0, f0, g0⟩ := F.pair0 23 _ _ rfl
    obtain ⟨p1, q1, f1, g1⟩ := F.pair1 23 _ _ rfl
    obtain ⟨p2, q2, f2, g2⟩ := F.pair2 23 _ _ rfl
    obtain ⟨gp0, gq0, gf0, gg0⟩ := G.pair0 23 _ _ rfl
    obtain ⟨hp0, hq0, hf0, hg0⟩ := H.pair0 23 _ _ rfl
    refine hK.out _ _ ⟨gp0, gq0, p0, q0, hp0, hq0⟩ (fun hHeld => ?_)
    clear hK K
    refine one_ (i := 5) (N := some 39) #[true, true, true, true, true, true, false] rfl rfl (by kernel_rfl) (by decide) (fun K hK => ?_)
    rw [if_pos (by rfl)]
    go_simp
    go_at_call 11
    (with_reducible refine (HJ2.out _).mono ?_)
    rintro e w1 ⟨rfl, hb⟩
    have F : Fr w w1 [(23, #[.int .i32 a, .int .i32 b]), (23, #[.int .i32 c, .int .i32 d]), (23, #[.int .i32 0, .int .i32 0])] := (by first | exact F.call hb | exact F.drew.call hb | exact (F.drewN _).call hb | exact (F.alloc _).call hb | exact (F.alloc _).drew.call hb)
    have G : Fr w6 w1 [(23, #[.int .i32 1, .int .i32 0])] := (by first | exact G.call hb | exact G.drew.call hb | exact (G.drewN _).call hb | exact (G.alloc _).call hb | exact (G.alloc _).drew.call hb)
    have H : Fr w8a w1 [(23, #[.int .i32 nn1, .int .i32 nn2])] := (by first | exact H.call hb | exact H.drew.call hb | exact (H.drewN _).call hb | exact (H.alloc _).call hb | exact (H.alloc _).drew.call hb)
    obtain ⟨p0, q0, f0, g0⟩ := F.pair0 23 _ _ rfl
    obtain ⟨p1, q1, f1, g1⟩ := F.pair1 23 _ _ rfl
    obtain ⟨p2, q2, f2, g2⟩ := F.pair2 23 _ _ rfl
    obtain ⟨gp0, gq0, gf0, gg0⟩ := G.pair0 23 _ _ rfl
    obtain ⟨hp0, hq0, hf0, hg0⟩ := H.pair0 23 _ _ rfl
    refine hK.out _ _ ⟨gp0, gq0, p0, q0, hp0, hq0⟩ (fun hHeld => ?_)
    clear hK K
    refine last_ (i := 6) (N := none) #[true, true, true, true, true, true, true] rfl rfl (by kernel_rfl) (by decide) (fun K hK => ?_)
    rw [if_pos (by rfl)]
    go_simp
    refine hK.out _ _ ?_
    clear hK K
    refine done_ (by kernel_rfl) ?_
    have G := G.put0 23 _ _ rfl (.int .i32 r1) (.int .i32 r2)
    have F := (F.far w6.heap.size 0 (Nat.succ_le_of_lt hsz) (.int .i32 r1)).far w6.heap.size 1 (Nat.succ_le_of_lt hsz) (.int .i32 r2)
    go_wp2
    generalize (w1.setCell ⟨w6.heap.size, 0, none⟩ (.int .i32 r1)).setCell ⟨w6.heap.size, 1, none⟩ (.int .i32 r2) = w10 at *
    obtain ⟨p0, q0, f0, g0⟩ := F.pair0 23 _ _ rfl; obtain ⟨p1, q1, f1, g1⟩ := F.pair1 23 _ _ rfl; obtain ⟨p2, q2, f2, g2⟩ := F.pair2 23 _ _ rfl
    obtain ⟨gp0, gq0, gf0, gg0⟩ := G.pair0 23 _ _ rfl
    clear H
    rw [rounds_succ]
    go_wp2
    have F := F.put2 23 _ _ rfl (.int .i32 r1) (.int .i32 r2)
    exact bodyPost_ret (results_cell_row rfl _ _ (w.heap.size + 1 + 1) 23 #[.int .i32 r1, .int .i32 r2] (0, 0) _ rfl (F.blk2 23 _ rfl) Try.underlying23 rfl (by kernel_rfl)) rfl ⟨rfl, F.below⟩
    
set_option maxRecDepth 100000 in
set_option maxHeartbeats 8000000 in
theorem div_pos0 (a b d mm1 mm2 nn1 nn2 l1 l2 r1 r2 : Int) (d0 : (d == 0) = false) (x1 : Bool) (hf1 : ct a b (-2147483648) = x1) (hf2 : (x1 && ct 0 d (-1)) = false) (hm : ∀ w, Calls Try.prog 12 #[.agg #[.int .i32 0, .int .i32 d], .agg #[.int .i32 (-2147483648), .int .i32 (-1)]] w fun e w' => e = .returned (.agg #[.int .i32 mm1, .int .i32 mm2]) ∧ Below w.heap.size w w') (hq : ∀ w, Calls Try.prog 12 #[.agg #[.int .i32 0, .int .i32 d], .agg #[.int .i32 1, .int .i32 2147483647]] w fun e w' => e = .returned (.agg #[.int .i32 nn1, .int .i32 nn2]) ∧ Below w.heap.size w w') (em : decide (mm1 > mm2) = true) (eq : decide (nn1 > nn2) = false) (hc2 : ∀ w, Calls Try.prog 29 #[.agg #[.int .i32 a, .int .i32 b], .agg #[.int .i32 nn1, .int .i32 nn2], .func (Fn.func 56) #[] #[]] w fun e w' => e = .returned (.agg #[.int .i32 l1, .int .i32 l2]) ∧ Below w.heap.size w w') (hj2 : ∀ w, Calls Try.prog 11 #[.agg #[.int .i32 1, .int .i32 0], .agg #[.int .i32 l1, .int .i32 l2]] w fun e w' => e = .returned (.agg #[.int .i32 r1, .int .i32 r2]) ∧ Below w.heap.size w w') (w : World) :
    Calls Try.prog 33 #[.agg #[.int .i32 a, .int .i32 b], .agg #[.int .i32 0, .int .i32 d]] w fun e w' => e = .returned (.agg #[.int .i32 r1, .int .i32 r2]) ∧ Below w.heap.size w w' := by
  have HM := Lib.hid hm
  have HQ := Lib.hid hq
  have EM := Lib.hid em
  have EQ := Lib.hid eq
  have HC2 := Lib.hid hc2
  have HJ2 := Lib.hid hj2
  clear hm hq em eq hc2 hj2
  have F := Fr.three w 23 #[.int .i32 a, .int .i32 b] 23 #[.int .i32 0, .int .i32 d] 23 #[.int .i32 0, .int .i32 0]
  obtain ⟨p0, q0, f0, g0⟩ := F.pair0 23 _ _ rfl; obtain ⟨p1, q1, f1, g1⟩ := F.pair1 23 _ _ rfl; obtain ⟨p2, q2, f2, g2⟩ := F.pair2 23 _ _ rfl
  have hu23 := Try.underlying23
  cases x1 with
  | false =>
    have HF1 := Lib.hid hf1
    clear hf1 hf2
    go_enter Try.func33, Try.ntmps33
    go_wp2_with fail
    go_region_held3 (fun w' => w'.cell? ⟨w.heap.size + 1, 0, none⟩ = some (.int .i32 0) ∧ w'.cell? ⟨w.heap.size + 1, 1, none⟩ = some (.int .i32 d))
      (first | go_keep | exact ⟨p1, q1⟩)
      (first | (go_at_call 27; ((with_reducible refine (of_c _ _).mono ?_); rintro e w1 ⟨rfl, hb⟩; have F : Fr w w1 [(23, #[.int .i32 a, .int .i32 b]), (23, #[.int .i32 0, .int .i32 d]), (23, #[.int .i32 0, .int .i32 0])] := (by first | exact F.call hb | exact (F.drewN _).call hb | exact F.drew.call hb | exact (F.alloc _).call hb); obtain ⟨p0, q0, f0, g0⟩ := F.pair0 23 _ _ rfl; obtain ⟨p1, q1, f1, g1⟩ := F.pair1 23 _ _ rfl; obtain ⟨p2, q2, f2, g2⟩ := F.pair2 23 _ _ rfl)))
    go_wp2_with (first | (go_at_call 15; ((with_reducible refine (contains_r a b (-2147483648) _ HF1.out _).mono ?_); rintro e w1 ⟨rfl, hb⟩; have F : Fr w w1 [(23, #[.int .i32 a, .int .i32 b]), (23, #[.int .i32 0, .int .i32 d]), (23, #[.int .i32 0, .int .i32 0])] := (by first | exact F.call hb | exact (F.drewN _).call hb | exact F.drew.call hb | exact (F.alloc _).call hb); obtain ⟨p0, q0, f0, g0⟩ := F.pair0 23 _ _ rfl; obtain ⟨p1, q1, f1, g1⟩ := F.pair1 23 _ _ rfl; obtain ⟨p2, q2, f2, g2⟩ := F.pair2 23 _ _ rfl)) | (go_at_call 18; ((with_reducible refine (empty_c _).mono ?_); rintro e w6 ⟨rfl, hb⟩; have F : Fr w w6 [(23, #[.int .i32 a, .int .i32 b]), (23, #[.int .i32 0, .int .i32 d]), (23, #[.int .i32 0, .int .i32 0])] := (by first | exact F.call hb | exact (F.drewN _).call hb | exact F.drew.call hb | exact (F.alloc _).call hb); obtain ⟨p0, q0, f0, g0⟩ := F.pair0 23 _ _ rfl; obtain ⟨p1, q1, f1, g1⟩ := F.pair1 23 _ _ rfl; obtain ⟨p2, q2, f2, g2⟩ := F.pair2 23 _ _ rfl)))
    have hsz : w.heap.size + 2 < w6.heap.size := F.size 2 _ rfl
    have G := Fr.one w6 23 #[.int .i32 1, .int .i32 0]
    have F := F.alloc (.cells #[.int .i32 1, .int .i32 0] 23 (0, 0))
    obtain ⟨p0, q0, f0, g0⟩ := F.pair0 23 _ _ rfl; obtain ⟨p1, q1, f1, g1⟩ := F.pair1 23 _ _ rfl; obtain ⟨p2, q2, f2, g2⟩ := F.pair2 23 _ _ rfl
    obtain ⟨gp0, gq0, gf0, gg0⟩ := G.pair0 23 _ _ rfl
    go_region_held3 (fun w' => w'.cell? ⟨w.heap.size + 1, 0, none⟩ = some (.int .i32 0) ∧ w'.cell? ⟨w.heap.size + 1, 1, none⟩ = some (.int .i32 d))
      (first | go_keep | exact ⟨p1, q1⟩)
      (first | (go_at_call 12; ((with_reducible refine (HM.out _).mono ?_); rintro e w7 ⟨rfl, hb⟩; have F : Fr w w7 [(23, #[.int .i32 a, .int .i32 b]), (23, #[.int .i32 0, .int .i32 d]), (23, #[.int .i32 0, .int .i32 0])] := (by first | exact F.call hb | exact F.drew.call hb | exact (F.drewN _).call hb | exact (F.alloc _).call hb | exact (F.alloc _).drew.call hb); have G : Fr w6 w7 [(23, #[.int .i32 1, .int .i32 0])] := (by first | exact G.call hb | exact G.drew.call hb | exact (G.drewN _).call hb | exact (G.alloc _).call hb | exact (G.alloc _).drew.call hb); obtain ⟨p0, q0, f0, g0⟩ := F.pair0 23 _ _ rfl; obtain ⟨p1, q1, f1, g1⟩ := F.pair1 23 _ _ rfl; obtain ⟨p2, q2, f2, g2⟩ := F.pair2 23 _ _ rfl; obtain ⟨gp0, gq0, gf0, gg0⟩ := G.pair0 23 _ _ rfl)) | (go_at_call 12; ((with_reducible refine (HQ.out _).mono ?_); rintro e w7 ⟨rfl, hb⟩; have F : Fr w w7 [(23, #[.int .i32 a, .int .i32 b]), (23, #[.int .i32 0, .int .i32 d]), (23, #[.int .i32 0, .int .i32 0])] := (by first | exact F.call hb | exact F.drew.call hb | exact (F.drewN _).call hb | exact (F.alloc _).call hb | exact (F.alloc _).drew.call hb); have G : Fr w6 w7 [(23, #[.int .i32 1, .int .i32 0])] := (by first | exact G.call hb | exact G.drew.call hb | exact (G.drewN _).call hb | exact (G.alloc _).call hb | exact (G.alloc _).drew.call hb); obtain ⟨p0, q0, f0, g0⟩ := F.pair0 23 _ _ rfl; obtain ⟨p1, q1, f1, g1⟩ := F.pair1 23 _ _ rfl; obtain ⟨p2, q2, f2, g2⟩ := F.pair2 23 _ _ rfl; obtain ⟨gp0, gq0, gf0, gg0⟩ := G.pair0 23 _ _ rfl)))
    have i0 : ∀ w, (Instr.index 66 (.agg #[.int .i32 mm1, .int .i32 mm2, .int .i32 nn1, .int .i32 nn2]) (.int .i64 0)).run Try.prog w = .ok (.agg #[.int .i32 mm1, .int .i32 mm2]) w := fun _ => by kernel_rfl
    have i1 : ∀ w, (Instr.index 66 (.agg #[.int .i32 mm1, .int .i32 mm2, .int .i32 nn1, .int .i32 nn2]) (.int .i64 1)).run Try.prog w = .ok (.agg #[.int .i32 nn1, .int .i32 nn2]) w := fun _ => by kernel_rfl
    go_wp2
    refine wp_loop_rounds 3 ?_
    have H := Fr.one w7 23 #[.int .i32 mm1, .int .i32 mm2]
    have F := F.alloc (.cells #[.int .i32 mm1, .int .i32 mm2] 23 (0, 0))
    have G := G.alloc (.cells #[.int .i32 mm1, .int .i32 mm2] 23 (0, 0))
    rw [rounds_succ]
    go_wp2_with (first | (go_at_call 17; ((with_reducible refine (isEmpty_r _ _ _ EM.out _).mono ?_); rintro e w8a ⟨rfl, hb⟩; have F : Fr w w8a [(23, #[.int .i32 a, .int .i32 b]), (23, #[.int .i32 0, .int .i32 d]), (23, #[.int .i32 0, .int .i32 0])] := (by first | exact F.call hb | exact F.drew.call hb | exact (F.drewN _).call hb | exact (F.alloc _).call hb | exact (F.alloc _).drew.call hb); have G : Fr w6 w8a [(23, #[.int .i32 1, .int .i32 0])] := (by first | exact G.call hb | exact G.drew.call hb | exact (G.drewN _).call hb | exact (G.alloc _).call hb | exact (G.alloc _).drew.call hb); have H : Fr w7 w8a [(23, #[.int .i32 mm1, .int .i32 mm2])] := (by first | exact H.call hb | exact H.drew.call hb | exact (H.drewN _).call hb | exact (H.alloc _).call hb | exact (H.alloc _).drew.call hb); obtain ⟨p0, q0, f0, g0⟩ := F.pair0 23 _ _ rfl; obtain ⟨p1, q1, f1, g1⟩ := F.pair1 23 _ _ rfl; obtain ⟨p2, q2, f2, g2⟩ := F.pair2 23 _ _ rfl; obtain ⟨gp0, gq0, gf0, gg0⟩ := G.pair0 23 _ _ rfl; obtain ⟨hp0, hq0, hf0, hg0⟩ := H.pair0 23 _ _ rfl)))
    obtain ⟨p0, q0, f0, g0⟩ := F.pair0 23 _ _ rfl; obtain ⟨p1, q1, f1, g1⟩ := F.pair1 23 _ _ rfl; obtain ⟨p2, q2, f2, g2⟩ := F.pair2 23 _ _ rfl
    obtain ⟨gp0, gq0, gf0, gg0⟩ := G.pair0 23 _ _ rfl
    clear H
    have H := Fr.one w8a 23 #[.int .i32 nn1, .int .i32 nn2]
    have F := F.alloc (.cells #[.int .i32 nn1, .int .i32 nn2] 23 (0, 0))
    have G := G.alloc (.cells #[.int .i32 nn1, .int .i32 nn2] 23 (0, 0))
    rw [rounds_succ]
    go_wp2_with (first | (go_at_call 17; ((with_reducible refine (isEmpty_r _ _ _ EQ.out _).mono ?_); rintro e w8b ⟨rfl, hb⟩; have F : Fr w w8b [(23, #[.int .i32 a, .int .i32 b]), (23, #[.int .i32 0, .int .i32 d]), (23, #[.int .i32 0, .int .i32 0])] := (by first | exact F.call hb | exact F.drew.call hb | exact (F.drewN _).call hb | exact (F.alloc _).call hb | exact (F.alloc _).drew.call hb); have G : Fr w6 w8b [(23, #[.int .i32 1, .int .i32 0])] := (by first | exact G.call hb | exact G.drew.call hb | exact (G.drewN _).call hb | exact (G.alloc _).call hb | exact (G.alloc _).drew.call hb); have H : Fr w8a w8b [(23, #[.int .i32 nn1, .int .i32 nn2])] := (by first | exact H.call hb | exact H.drew.call hb | exact (H.drewN _).call hb | exact (H.alloc _).call hb | exact (H.alloc _).drew.call hb); obtain ⟨p0, q0, f0, g0⟩ := F.pair0 23 _ _ rfl; obtain ⟨p1, q1, f1, g1⟩ := F.pair1 23 _ _ rfl; obtain ⟨p2, q2, f2, g2⟩ := F.pair2 23 _ _ rfl; obtain ⟨gp0, gq0, gf0, gg0⟩ := G.pair0 23 _ _ rfl; obtain ⟨hp0, hq0, hf0, hg0⟩ := H.pair0 23 _ _ rfl)))
    refine start_ (n := 7) (S := fun w' => w'.cell? ⟨w6.heap.size, 0, none⟩ = some (.int .i32 1) ∧ w'.cell? ⟨w6.heap.size, 1, none⟩ = some (.int .i32 0) ∧ w'.cell? ⟨w.heap.size, 0, none⟩ = some (.int .i32 a) ∧ w'.cell? ⟨w.heap.size, 1, none⟩ = some (.int .i32 b) ∧ w'.cell? ⟨w8a.heap.size, 0, none⟩ = some (.int .i32 nn1) ∧ w'.cell? ⟨w8a.heap.size, 1, none⟩ = some (.int .i32 nn2)) (ds := [6]) #[false, false, false, false, false, false, false] (by kernel_rfl) rfl rfl ⟨gp0, gq0, p0, q0, hp0, hq0⟩ (fun hHeld => ?_)
    have F := F.drew
    have G := G.drew
    have H := H.drew
    refine take_ (i := 0) (N := some 34) (v := ?_) (a' := ?_) #[true, false, false, false, false, false, false] rfl rfl (by kernel_rfl) (fun _ _ _ h => h) (Or.inl ⟨by rfl, ?_⟩) hHeld ?_ ?_
    rotate_left
    · rintro w' ⟨s0, s1, s2, s3, s4, s5⟩
      go_simp
      with_reducible rfl
    rotate_left
    · simp only [Act.put, List.setIfInBounds_toArray, List.set_cons_zero, List.set_cons_succ, i64_w, i32_w]
      rfl
    refine take_ (i := 1) (N := some 35) (v := ?_) (a' := ?_) #[true, true, false, false, false, false, false] rfl rfl (by kernel_rfl) (fun _ _ _ h => h) (Or.inl ⟨by rfl, ?_⟩) hHeld ?_ ?_
    rotate_left
    · rintro w' ⟨s0, s1, s2, s3, s4, s5⟩
      go_simp
      with_reducible rfl
    rotate_left
    · simp only [Act.put, List.setIfInBounds_toArray, List.set_cons_zero, List.set_cons_succ, i64_w, i32_w]
      rfl
    refine take_ (i := 2) (N := some 36) (v := ?_) (a' := ?_) #[true, true, true, false, false, false, false] rfl rfl (by kernel_rfl) (fun _ _ _ h => h) (Or.inl ⟨by rfl, ?_⟩) hHeld ?_ ?_
    rotate_left
    · rintro w' ⟨s0, s1, s2, s3, s4, s5⟩
      go_simp
      with_reducible rfl
    rotate_left
    · simp only [Act.put, List.setIfInBounds_toArray, List.set_cons_zero, List.set_cons_succ, i64_w, i32_w]
      rfl
    refine pure_ (i := 3) (N := some 37) (v := ?_) (a' := ?_) #[true, true, true, true, false, false, false] rfl rfl (by kernel_rfl) (fun _ _ _ h => h) (Or.inl ⟨by rfl, ?_⟩) ?_ ?_
    rotate_left
    · intro w'
      go_simp
      with_reducible rfl
    rotate_left
    · simp only [Act.put, List.setIfInBounds_toArray, List.set_cons_zero, List.set_cons_succ, i64_w, i32_w]
      rfl
    refine one_ (i := 4) (N := some 38) #[true, true, true, true, true, false, false] rfl rfl (by kernel_rfl) (by decide) (fun K hK => ?_)
    rw [if_pos (by rfl)]
    go_simp
    go_at_call 29
    (with_reducible refine (HC2.out _).mono ?_)
    rintro e w1 ⟨rfl, hb⟩
    have F : Fr w w1 [(23, #[.int .i32 a, .int .i32 b]), (23, #[.int .i32 0, .int .i32 d]), (23, #[.int .i32 0, .int .i32 0])] := (by first | exact F.call hb | exact F.drew.call hb | exact (F.drewN _).call hb | exact (F.alloc _).call hb | exact (F.alloc _).drew.call hb)
    have G : Fr w6 w1 [(23, #[.int .i32 1, .int .i32 0])] := (by first | exact G.call hb | exact G.drew.call hb | exact (G.drewN _).call hb | exact (G.alloc _).call hb | exact (G.alloc _).drew.call hb)
    have H : Fr w8a w1 [(23, #[.int .i32 nn1, .int .i32 nn2])] := (by first | exact H.call hb | exact H.drew.call hb | exact (H.drewN _).call hb | exact (H.alloc _).call hb | exact (H.alloc _).drew.call hb)
    obtain ⟨p0, q0, f0, g0⟩ := F.pair0 23 _ _ rfl
    obtain ⟨p1, q1, f1, g1⟩ := F.pair1 23 _ _ rfl
    obtain ⟨p2, q2, f2, g2⟩ := F.pair2 23 _ _ rfl
    obtain ⟨gp0, gq0, gf0, gg0⟩ := G.pair0 23 _ _ rfl
    obtain ⟨hp0, hq0, hf0, hg0⟩ := H.pair0 23 _ _ rfl
    refine hK.out _ _ ⟨gp0, gq0, p0, q0, hp0, hq0⟩ (fun hHeld => ?_)
    clear hK K
    refine one_ (i := 5) (N := some 39) #[true, true, true, true, true, true, false] rfl rfl (by kernel_rfl) (by decide) (fun K hK => ?_)
    rw [if_pos (by rfl)]
    go_simp
    go_at_call 11
    (with_reducible refine (HJ2.out _).mono ?_)
    rintro e w1 ⟨rfl, hb⟩
    have F : Fr w w1 [(23, #[.int .i32 a, .int .i32 b]), (23, #[.int .i32 0, .int .i32 d]), (23, #[.int .i32 0, .int .i32 0])] := (by first | exact F.call hb | exact F.drew.call hb | exact (F.drewN _).call hb | exact (F.alloc _).call hb | exact (F.alloc _).drew.call hb)
    have G : Fr w6 w1 [(23, #[.int .i32 1, .int .i32 0])] := (by first | exact G.call hb | exact G.drew.call hb | exact (G.drewN _).call hb | exact (G.alloc _).call hb | exact (G.alloc _).drew.call hb)
    have H : Fr w8a w1 [(23, #[.int .i32 nn1, .int .i32 nn2])] := (by first | exact H.call hb | exact H.drew.call hb | exact (H.drewN _).call hb | exact (H.alloc _).call hb | exact (H.alloc _).drew.call hb)
    obtain ⟨p0, q0, f0, g0⟩ := F.pair0 23 _ _ rfl
    obtain ⟨p1, q1, f1, g1⟩ := F.pair1 23 _ _ rfl
    obtain ⟨p2, q2, f2, g2⟩ := F.pair2 23 _ _ rfl
    obtain ⟨gp0, gq0, gf0, gg0⟩ := G.pair0 23 _ _ rfl
    obtain ⟨hp0, hq0, hf0, hg0⟩ := H.pair0 23 _ _ rfl
    refine hK.out _ _ ⟨gp0, gq0, p0, q0, hp0, hq0⟩ (fun hHeld => ?_)
    clear hK K
    refine last_ (i := 6) (N := none) #[true, true, true, true, true, true, true] rfl rfl (by kernel_rfl) (by decide) (fun K hK => ?_)
    rw [if_pos (by rfl)]
    go_simp
    refine hK.out _ _ ?_
    clear hK K
    refine done_ (by kernel_rfl) ?_
    have G := G.put0 23 _ _ rfl (.int .i32 r1) (.int .i32 r2)
    have F := (F.far w6.heap.size 0 (Nat.succ_le_of_lt hsz) (.int .i32 r1)).far w6.heap.size 1 (Nat.succ_le_of_lt hsz) (.int .i32 r2)
    go_wp2
    generalize (w1.setCell ⟨w6.heap.size, 0, none⟩ (.int .i32 r1)).setCell ⟨w6.heap.size, 1, none⟩ (.int .i32 r2) = w10 at *
    obtain ⟨p0, q0, f0, g0⟩ := F.pair0 23 _ _ rfl; obtain ⟨p1, q1, f1, g1⟩ := F.pair1 23 _ _ rfl; obtain ⟨p2, q2, f2, g2⟩ := F.pair2 23 _ _ rfl
    obtain ⟨gp0, gq0, gf0, gg0⟩ := G.pair0 23 _ _ rfl
    clear H
    rw [rounds_succ]
    go_wp2
    have F := F.put2 23 _ _ rfl (.int .i32 r1) (.int .i32 r2)
    exact bodyPost_ret (results_cell_row rfl _ _ (w.heap.size + 1 + 1) 23 #[.int .i32 r1, .int .i32 r2] (0, 0) _ rfl (F.blk2 23 _ rfl) Try.underlying23 rfl (by kernel_rfl)) rfl ⟨rfl, F.below⟩
    
  | true =>
    have HF1 := Lib.hid hf1
    have hf3 : ct 0 d (-1) = false := by simpa using hf2
    have HF2 := Lib.hid hf3
    clear hf3
    clear hf1 hf2
    go_enter Try.func33, Try.ntmps33
    go_wp2_with fail
    go_region_held3 (fun w' => w'.cell? ⟨w.heap.size + 1, 0, none⟩ = some (.int .i32 0) ∧ w'.cell? ⟨w.heap.size + 1, 1, none⟩ = some (.int .i32 d))
      (first | go_keep | exact ⟨p1, q1⟩)
      (first | (go_at_call 27; ((with_reducible refine (of_c _ _).mono ?_); rintro e w1 ⟨rfl, hb⟩; have F : Fr w w1 [(23, #[.int .i32 a, .int .i32 b]), (23, #[.int .i32 0, .int .i32 d]), (23, #[.int .i32 0, .int .i32 0])] := (by first | exact F.call hb | exact (F.drewN _).call hb | exact F.drew.call hb | exact (F.alloc _).call hb); obtain ⟨p0, q0, f0, g0⟩ := F.pair0 23 _ _ rfl; obtain ⟨p1, q1, f1, g1⟩ := F.pair1 23 _ _ rfl; obtain ⟨p2, q2, f2, g2⟩ := F.pair2 23 _ _ rfl)))
    go_wp2_with (first | (go_at_call 15; ((with_reducible refine (contains_r a b (-2147483648) _ HF1.out _).mono ?_); rintro e w1 ⟨rfl, hb⟩; have F : Fr w w1 [(23, #[.int .i32 a, .int .i32 b]), (23, #[.int .i32 0, .int .i32 d]), (23, #[.int .i32 0, .int .i32 0])] := (by first | exact F.call hb | exact (F.drewN _).call hb | exact F.drew.call hb | exact (F.alloc _).call hb); obtain ⟨p0, q0, f0, g0⟩ := F.pair0 23 _ _ rfl; obtain ⟨p1, q1, f1, g1⟩ := F.pair1 23 _ _ rfl; obtain ⟨p2, q2, f2, g2⟩ := F.pair2 23 _ _ rfl)) | (go_at_call 15; ((with_reducible refine (contains_r 0 d (-1) _ HF2.out _).mono ?_); rintro e w1 ⟨rfl, hb⟩; have F : Fr w w1 [(23, #[.int .i32 a, .int .i32 b]), (23, #[.int .i32 0, .int .i32 d]), (23, #[.int .i32 0, .int .i32 0])] := (by first | exact F.call hb | exact (F.drewN _).call hb | exact F.drew.call hb | exact (F.alloc _).call hb); obtain ⟨p0, q0, f0, g0⟩ := F.pair0 23 _ _ rfl; obtain ⟨p1, q1, f1, g1⟩ := F.pair1 23 _ _ rfl; obtain ⟨p2, q2, f2, g2⟩ := F.pair2 23 _ _ rfl)) | (go_at_call 18; ((with_reducible refine (empty_c _).mono ?_); rintro e w6 ⟨rfl, hb⟩; have F : Fr w w6 [(23, #[.int .i32 a, .int .i32 b]), (23, #[.int .i32 0, .int .i32 d]), (23, #[.int .i32 0, .int .i32 0])] := (by first | exact F.call hb | exact (F.drewN _).call hb | exact F.drew.call hb | exact (F.alloc _).call hb); obtain ⟨p0, q0, f0, g0⟩ := F.pair0 23 _ _ rfl; obtain ⟨p1, q1, f1, g1⟩ := F.pair1 23 _ _ rfl; obtain ⟨p2, q2, f2, g2⟩ := F.pair2 23 _ _ rfl)))
    have hsz : w.heap.size + 2 < w6.heap.size := F.size 2 _ rfl
    have G := Fr.one w6 23 #[.int .i32 1, .int .i32 0]
    have F := F.alloc (.cells #[.int .i32 1, .int .i32 0] 23 (0, 0))
    obtain ⟨p0, q0, f0, g0⟩ := F.pair0 23 _ _ rfl; obtain ⟨p1, q1, f1, g1⟩ := F.pair1 23 _ _ rfl; obtain ⟨p2, q2, f2, g2⟩ := F.pair2 23 _ _ rfl
    obtain ⟨gp0, gq0, gf0, gg0⟩ := G.pair0 23 _ _ rfl
    go_region_held3 (fun w' => w'.cell? ⟨w.heap.size + 1, 0, none⟩ = some (.int .i32 0) ∧ w'.cell? ⟨w.heap.size + 1, 1, none⟩ = some (.int .i32 d))
      (first | go_keep | exact ⟨p1, q1⟩)
      (first | (go_at_call 12; ((with_reducible refine (HM.out _).mono ?_); rintro e w7 ⟨rfl, hb⟩; have F : Fr w w7 [(23, #[.int .i32 a, .int .i32 b]), (23, #[.int .i32 0, .int .i32 d]), (23, #[.int .i32 0, .int .i32 0])] := (by first | exact F.call hb | exact F.drew.call hb | exact (F.drewN _).call hb | exact (F.alloc _).call hb | exact (F.alloc _).drew.call hb); have G : Fr w6 w7 [(23, #[.int .i32 1, .int .i32 0])] := (by first | exact G.call hb | exact G.drew.call hb | exact (G.drewN _).call hb | exact (G.alloc _).call hb | exact (G.alloc _).drew.call hb); obtain ⟨p0, q0, f0, g0⟩ := F.pair0 23 _ _ rfl; obtain ⟨p1, q1, f1, g1⟩ := F.pair1 23 _ _ rfl; obtain ⟨p2, q2, f2, g2⟩ := F.pair2 23 _ _ rfl; obtain ⟨gp0, gq0, gf0, gg0⟩ := G.pair0 23 _ _ rfl)) | (go_at_call 12; ((with_reducible refine (HQ.out _).mono ?_); rintro e w7 ⟨rfl, hb⟩; have F : Fr w w7 [(23, #[.int .i32 a, .int .i32 b]), (23, #[.int .i32 0, .int .i32 d]), (23, #[.int .i32 0, .int .i32 0])] := (by first | exact F.call hb | exact F.drew.call hb | exact (F.drewN _).call hb | exact (F.alloc _).call hb | exact (F.alloc _).drew.call hb); have G : Fr w6 w7 [(23, #[.int .i32 1, .int .i32 0])] := (by first | exact G.call hb | exact G.drew.call hb | exact (G.drewN _).call hb | exact (G.alloc _).call hb | exact (G.alloc _).drew.call hb); obtain ⟨p0, q0, f0, g0⟩ := F.pair0 23 _ _ rfl; obtain ⟨p1, q1, f1, g1⟩ := F.pair1 23 _ _ rfl; obtain ⟨p2, q2, f2, g2⟩ := F.pair2 23 _ _ rfl; obtain ⟨gp0, gq0, gf0, gg0⟩ := G.pair0 23 _ _ rfl)))
    have i0 : ∀ w, (Instr.index 66 (.agg #[.int .i32 mm1, .int .i32 mm2, .int .i32 nn1, .int .i32 nn2]) (.int .i64 0)).run Try.prog w = .ok (.agg #[.int .i32 mm1, .int .i32 mm2]) w := fun _ => by kernel_rfl
    have i1 : ∀ w, (Instr.index 66 (.agg #[.int .i32 mm1, .int .i32 mm2, .int .i32 nn1, .int .i32 nn2]) (.int .i64 1)).run Try.prog w = .ok (.agg #[.int .i32 nn1, .int .i32 nn2]) w := fun _ => by kernel_rfl
    go_wp2
    refine wp_loop_rounds 3 ?_
    have H := Fr.one w7 23 #[.int .i32 mm1, .int .i32 mm2]
    have F := F.alloc (.cells #[.int .i32 mm1, .int .i32 mm2] 23 (0, 0))
    have G := G.alloc (.cells #[.int .i32 mm1, .int .i32 mm2] 23 (0, 0))
    rw [rounds_succ]
    go_wp2_with (first | (go_at_call 17; ((with_reducible refine (isEmpty_r _ _ _ EM.out _).mono ?_); rintro e w8a ⟨rfl, hb⟩; have F : Fr w w8a [(23, #[.int .i32 a, .int .i32 b]), (23, #[.int .i32 0, .int .i32 d]), (23, #[.int .i32 0, .int .i32 0])] := (by first | exact F.call hb | exact F.drew.call hb | exact (F.drewN _).call hb | exact (F.alloc _).call hb | exact (F.alloc _).drew.call hb); have G : Fr w6 w8a [(23, #[.int .i32 1, .int .i32 0])] := (by first | exact G.call hb | exact G.drew.call hb | exact (G.drewN _).call hb | exact (G.alloc _).call hb | exact (G.alloc _).drew.call hb); have H : Fr w7 w8a [(23, #[.int .i32 mm1, .int .i32 mm2])] := (by first | exact H.call hb | exact H.drew.call hb | exact (H.drewN _).call hb | exact (H.alloc _).call hb | exact (H.alloc _).drew.call hb); obtain ⟨p0, q0, f0, g0⟩ := F.pair0 23 _ _ rfl; obtain ⟨p1, q1, f1, g1⟩ := F.pair1 23 _ _ rfl; obtain ⟨p2, q2, f2, g2⟩ := F.pair2 23 _ _ rfl; obtain ⟨gp0, gq0, gf0, gg0⟩ := G.pair0 23 _ _ rfl; obtain ⟨hp0, hq0, hf0, hg0⟩ := H.pair0 23 _ _ rfl)))
    obtain ⟨p0, q0, f0, g0⟩ := F.pair0 23 _ _ rfl; obtain ⟨p1, q1, f1, g1⟩ := F.pair1 23 _ _ rfl; obtain ⟨p2, q2, f2, g2⟩ := F.pair2 23 _ _ rfl
    obtain ⟨gp0, gq0, gf0, gg0⟩ := G.pair0 23 _ _ rfl
    clear H
    have H := Fr.one w8a 23 #[.int .i32 nn1, .int .i32 nn2]
    have F := F.alloc (.cells #[.int .i32 nn1, .int .i32 nn2] 23 (0, 0))
    have G := G.alloc (.cells #[.int .i32 nn1, .int .i32 nn2] 23 (0, 0))
    rw [rounds_succ]
    go_wp2_with (first | (go_at_call 17; ((with_reducible refine (isEmpty_r _ _ _ EQ.out _).mono ?_); rintro e w8b ⟨rfl, hb⟩; have F : Fr w w8b [(23, #[.int .i32 a, .int .i32 b]), (23, #[.int .i32 0, .int .i32 d]), (23, #[.int .i32 0, .int .i32 0])] := (by first | exact F.call hb | exact F.drew.call hb | exact (F.drewN _).call hb | exact (F.alloc _).call hb | exact (F.alloc _).drew.call hb); have G : Fr w6 w8b [(23, #[.int .i32 1, .int .i32 0])] := (by first | exact G.call hb | exact G.drew.call hb | exact (G.drewN _).call hb | exact (G.alloc _).call hb | exact (G.alloc _).drew.call hb); have H : Fr w8a w8b [(23, #[.int .i32 nn1, .int .i32 nn2])] := (by first | exact H.call hb | exact H.drew.call hb | exact (H.drewN _).call hb | exact (H.alloc _).call hb | exact (H.alloc _).drew.call hb); obtain ⟨p0, q0, f0, g0⟩ := F.pair0 23 _ _ rfl; obtain ⟨p1, q1, f1, g1⟩ := F.pair1 23 _ _ rfl; obtain ⟨p2, q2, f2, g2⟩ := F.pair2 23 _ _ rfl; obtain ⟨gp0, gq0, gf0, gg0⟩ := G.pair0 23 _ _ rfl; obtain ⟨hp0, hq0, hf0, hg0⟩ := H.pair0 23 _ _ rfl)))
    refine start_ (n := 7) (S := fun w' => w'.cell? ⟨w6.heap.size, 0, none⟩ = some (.int .i32 1) ∧ w'.cell? ⟨w6.heap.size, 1, none⟩ = some (.int .i32 0) ∧ w'.cell? ⟨w.heap.size, 0, none⟩ = some (.int .i32 a) ∧ w'.cell? ⟨w.heap.size, 1, none⟩ = some (.int .i32 b) ∧ w'.cell? ⟨w8a.heap.size, 0, none⟩ = some (.int .i32 nn1) ∧ w'.cell? ⟨w8a.heap.size, 1, none⟩ = some (.int .i32 nn2)) (ds := [6]) #[false, false, false, false, false, false, false] (by kernel_rfl) rfl rfl ⟨gp0, gq0, p0, q0, hp0, hq0⟩ (fun hHeld => ?_)
    have F := F.drew
    have G := G.drew
    have H := H.drew
    refine take_ (i := 0) (N := some 34) (v := ?_) (a' := ?_) #[true, false, false, false, false, false, false] rfl rfl (by kernel_rfl) (fun _ _ _ h => h) (Or.inl ⟨by rfl, ?_⟩) hHeld ?_ ?_
    rotate_left
    · rintro w' ⟨s0, s1, s2, s3, s4, s5⟩
      go_simp
      with_reducible rfl
    rotate_left
    · simp only [Act.put, List.setIfInBounds_toArray, List.set_cons_zero, List.set_cons_succ, i64_w, i32_w]
      rfl
    refine take_ (i := 1) (N := some 35) (v := ?_) (a' := ?_) #[true, true, false, false, false, false, false] rfl rfl (by kernel_rfl) (fun _ _ _ h => h) (Or.inl ⟨by rfl, ?_⟩) hHeld ?_ ?_
    rotate_left
    · rintro w' ⟨s0, s1, s2, s3, s4, s5⟩
      go_simp
      with_reducible rfl
    rotate_left
    · simp only [Act.put, List.setIfInBounds_toArray, List.set_cons_zero, List.set_cons_succ, i64_w, i32_w]
      rfl
    refine take_ (i := 2) (N := some 36) (v := ?_) (a' := ?_) #[true, true, true, false, false, false, false] rfl rfl (by kernel_rfl) (fun _ _ _ h => h) (Or.inl ⟨by rfl, ?_⟩) hHeld ?_ ?_
    rotate_left
    · rintro w' ⟨s0, s1, s2, s3, s4, s5⟩
      go_simp
      with_reducible rfl
    rotate_left
    · simp only [Act.put, List.setIfInBounds_toArray, List.set_cons_zero, List.set_cons_succ, i64_w, i32_w]
      rfl
    refine pure_ (i := 3) (N := some 37) (v := ?_) (a' := ?_) #[true, true, true, true, false, false, false] rfl rfl (by kernel_rfl) (fun _ _ _ h => h) (Or.inl ⟨by rfl, ?_⟩) ?_ ?_
    rotate_left
    · intro w'
      go_simp
      with_reducible rfl
    rotate_left
    · simp only [Act.put, List.setIfInBounds_toArray, List.set_cons_zero, List.set_cons_succ, i64_w, i32_w]
      rfl
    refine one_ (i := 4) (N := some 38) #[true, true, true, true, true, false, false] rfl rfl (by kernel_rfl) (by decide) (fun K hK => ?_)
    rw [if_pos (by rfl)]
    go_simp
    go_at_call 29
    (with_reducible refine (HC2.out _).mono ?_)
    rintro e w1 ⟨rfl, hb⟩
    have F : Fr w w1 [(23, #[.int .i32 a, .int .i32 b]), (23, #[.int .i32 0, .int .i32 d]), (23, #[.int .i32 0, .int .i32 0])] := (by first | exact F.call hb | exact F.drew.call hb | exact (F.drewN _).call hb | exact (F.alloc _).call hb | exact (F.alloc _).drew.call hb)
    have G : Fr w6 w1 [(23, #[.int .i32 1, .int .i32 0])] := (by first | exact G.call hb | exact G.drew.call hb | exact (G.drewN _).call hb | exact (G.alloc _).call hb | exact (G.alloc _).drew.call hb)
    have H : Fr w8a w1 [(23, #[.int .i32 nn1, .int .i32 nn2])] := (by first | exact H.call hb | exact H.drew.call hb | exact (H.drewN _).call hb | exact (H.alloc _).call hb | exact (H.alloc _).drew.call hb)
    obtain ⟨p0, q0, f0, g0⟩ := F.pair0 23 _ _ rfl
    obtain ⟨p1, q1, f1, g1⟩ := F.pair1 23 _ _ rfl
    obtain ⟨p2, q2, f2, g2⟩ := F.pair2 23 _ _ rfl
    obtain ⟨gp0, gq0, gf0, gg0⟩ := G.pair0 23 _ _ rfl
    obtain ⟨hp0, hq0, hf0, hg0⟩ := H.pair0 23 _ _ rfl
    refine hK.out _ _ ⟨gp0, gq0, p0, q0, hp0, hq0⟩ (fun hHeld => ?_)
    clear hK K
    refine one_ (i := 5) (N := some 39) #[true, true, true, true, true, true, false] rfl rfl (by kernel_rfl) (by decide) (fun K hK => ?_)
    rw [if_pos (by rfl)]
    go_simp
    go_at_call 11
    (with_reducible refine (HJ2.out _).mono ?_)
    rintro e w1 ⟨rfl, hb⟩
    have F : Fr w w1 [(23, #[.int .i32 a, .int .i32 b]), (23, #[.int .i32 0, .int .i32 d]), (23, #[.int .i32 0, .int .i32 0])] := (by first | exact F.call hb | exact F.drew.call hb | exact (F.drewN _).call hb | exact (F.alloc _).call hb | exact (F.alloc _).drew.call hb)
    have G : Fr w6 w1 [(23, #[.int .i32 1, .int .i32 0])] := (by first | exact G.call hb | exact G.drew.call hb | exact (G.drewN _).call hb | exact (G.alloc _).call hb | exact (G.alloc _).drew.call hb)
    have H : Fr w8a w1 [(23, #[.int .i32 nn1, .int .i32 nn2])] := (by first | exact H.call hb | exact H.drew.call hb | exact (H.drewN _).call hb | exact (H.alloc _).call hb | exact (H.alloc _).drew.call hb)
    obtain ⟨p0, q0, f0, g0⟩ := F.pair0 23 _ _ rfl
    obtain ⟨p1, q1, f1, g1⟩ := F.pair1 23 _ _ rfl
    obtain ⟨p2, q2, f2, g2⟩ := F.pair2 23 _ _ rfl
    obtain ⟨gp0, gq0, gf0, gg0⟩ := G.pair0 23 _ _ rfl
    obtain ⟨hp0, hq0, hf0, hg0⟩ := H.pair0 23 _ _ rfl
    refine hK.out _ _ ⟨gp0, gq0, p0, q0, hp0, hq0⟩ (fun hHeld => ?_)
    clear hK K
    refine last_ (i := 6) (N := none) #[true, true, true, true, true, true, true] rfl rfl (by kernel_rfl) (by decide) (fun K hK => ?_)
    rw [if_pos (by rfl)]
    go_simp
    refine hK.out _ _ ?_
    clear hK K
    refine done_ (by kernel_rfl) ?_
    have G := G.put0 23 _ _ rfl (.int .i32 r1) (.int .i32 r2)
    have F := (F.far w6.heap.size 0 (Nat.succ_le_of_lt hsz) (.int .i32 r1)).far w6.heap.size 1 (Nat.succ_le_of_lt hsz) (.int .i32 r2)
    go_wp2
    generalize (w1.setCell ⟨w6.heap.size, 0, none⟩ (.int .i32 r1)).setCell ⟨w6.heap.size, 1, none⟩ (.int .i32 r2) = w10 at *
    obtain ⟨p0, q0, f0, g0⟩ := F.pair0 23 _ _ rfl; obtain ⟨p1, q1, f1, g1⟩ := F.pair1 23 _ _ rfl; obtain ⟨p2, q2, f2, g2⟩ := F.pair2 23 _ _ rfl
    obtain ⟨gp0, gq0, gf0, gg0⟩ := G.pair0 23 _ _ rfl
    clear H
    rw [rounds_succ]
    go_wp2
    have F := F.put2 23 _ _ rfl (.int .i32 r1) (.int .i32 r2)
    exact bodyPost_ret (results_cell_row rfl _ _ (w.heap.size + 1 + 1) 23 #[.int .i32 r1, .int .i32 r2] (0, 0) _ rfl (F.blk2 23 _ rfl) Try.underlying23 rfl (by kernel_rfl)) rfl ⟨rfl, F.below⟩
    
set_option maxRecDepth 100000 in
theorem div_full (a b c d : Int) (c0 : (c == 0) = false) (h1' : ct a b (-2147483648) = true) (h2' : ct c d (-1) = true) (w : World) :
    Calls Try.prog 33 #[.agg #[.int .i32 a, .int .i32 b], .agg #[.int .i32 c, .int .i32 d]] w fun e w' => e = .returned (.agg #[.int .i32 (-2147483648), .int .i32 2147483647]) ∧ Below w.heap.size w w' := by
  have h1 := Lib.hid h1'
  have h2 := Lib.hid h2'
  clear h1' h2'
  have F := Fr.three w 23 #[.int .i32 a, .int .i32 b] 23 #[.int .i32 c, .int .i32 d] 23 #[.int .i32 0, .int .i32 0]
  obtain ⟨p0, q0, f0, g0⟩ := F.pair0 23 _ _ rfl; obtain ⟨p1, q1, f1, g1⟩ := F.pair1 23 _ _ rfl; obtain ⟨p2, q2, f2, g2⟩ := F.pair2 23 _ _ rfl
  have hu23 := Try.underlying23
  go_enter Try.func33, Try.ntmps33
  go_wp2_with fail
  go_region_held3 (fun w' => w'.cell? ⟨w.heap.size + 1, 0, none⟩ = some (.int .i32 c) ∧ w'.cell? ⟨w.heap.size + 1, 1, none⟩ = some (.int .i32 d))
    (first | go_keep | exact ⟨p1, q1⟩)
    (first | (go_at_call 27; ((with_reducible refine (of_c _ _).mono ?_); rintro e w1 ⟨rfl, hb⟩; have F : Fr w w1 [(23, #[.int .i32 a, .int .i32 b]), (23, #[.int .i32 c, .int .i32 d]), (23, #[.int .i32 0, .int .i32 0])] := (by first | exact F.call hb | exact (F.drewN _).call hb | exact F.drew.call hb | exact (F.alloc _).call hb); obtain ⟨p0, q0, f0, g0⟩ := F.pair0 23 _ _ rfl; obtain ⟨p1, q1, f1, g1⟩ := F.pair1 23 _ _ rfl; obtain ⟨p2, q2, f2, g2⟩ := F.pair2 23 _ _ rfl)))
  go_wp2_with (first | (go_at_call 15; ((with_reducible refine (contains_r a b (-2147483648) true h1.out _).mono ?_); rintro e w1 ⟨rfl, hb⟩; have F : Fr w w1 [(23, #[.int .i32 a, .int .i32 b]), (23, #[.int .i32 c, .int .i32 d]), (23, #[.int .i32 0, .int .i32 0])] := (by first | exact F.call hb | exact (F.drewN _).call hb | exact F.drew.call hb | exact (F.alloc _).call hb); obtain ⟨p0, q0, f0, g0⟩ := F.pair0 23 _ _ rfl; obtain ⟨p1, q1, f1, g1⟩ := F.pair1 23 _ _ rfl; obtain ⟨p2, q2, f2, g2⟩ := F.pair2 23 _ _ rfl)) | (go_at_call 15; ((with_reducible refine (contains_r c d (-1) true h2.out _).mono ?_); rintro e w1 ⟨rfl, hb⟩; have F : Fr w w1 [(23, #[.int .i32 a, .int .i32 b]), (23, #[.int .i32 c, .int .i32 d]), (23, #[.int .i32 0, .int .i32 0])] := (by first | exact F.call hb | exact (F.drewN _).call hb | exact F.drew.call hb | exact (F.alloc _).call hb); obtain ⟨p0, q0, f0, g0⟩ := F.pair0 23 _ _ rfl; obtain ⟨p1, q1, f1, g1⟩ := F.pair1 23 _ _ rfl; obtain ⟨p2, q2, f2, g2⟩ := F.pair2 23 _ _ rfl)) | (go_at_call 25; ((with_reducible refine (full_c _).mono ?_); rintro e w1 ⟨rfl, hb⟩; have F : Fr w w1 [(23, #[.int .i32 a, .int .i32 b]), (23, #[.int .i32 c, .int .i32 d]), (23, #[.int .i32 0, .int .i32 0])] := (by first | exact F.call hb | exact (F.drewN _).call hb | exact F.drew.call hb | exact (F.alloc _).call hb); obtain ⟨p0, q0, f0, g0⟩ := F.pair0 23 _ _ rfl; obtain ⟨p1, q1, f1, g1⟩ := F.pair1 23 _ _ rfl; obtain ⟨p2, q2, f2, g2⟩ := F.pair2 23 _ _ rfl)))
  have F := F.put2 23 _ _ rfl (.int .i32 (-2147483648)) (.int .i32 2147483647)
  exact bodyPost_ret (results_cell_row rfl _ _ (w.heap.size + 1 + 1) 23 #[.int .i32 (-2147483648), .int .i32 2147483647] (0, 0) _ rfl (F.blk2 23 _ rfl) Try.underlying23 rfl (by kernel_rfl)) rfl ⟨rfl, F.below⟩

theorem meet_r (a b c d r1 r2 : Int) (h : met a b c d = (r1, r2)) (w : World) :
    Calls Try.prog 12 #[.agg #[.int .i32 a, .int .i32 b], .agg #[.int .i32 c, .int .i32 d]] w fun e w' => e = .returned (.agg #[.int .i32 r1, .int .i32 r2]) ∧ Below w.heap.size w w' := by
  have := meet_c a b c d w
  rwa [h] at this

theorem div_c (a b c d : Int) (ha : -2147483648 ≤ a) (ha1 : a ≤ 2147483647) (hb : -2147483648 ≤ b) (hb1 : b ≤ 2147483647) (hc : -2147483648 ≤ c) (hc1 : c ≤ 2147483647) (hd : -2147483648 ≤ d) (hd1 : d ≤ 2147483647) (hcd : c ≤ d) (w : World) :
    Calls Try.prog 33 #[.agg #[.int .i32 a, .int .i32 b], .agg #[.int .i32 c, .int .i32 d]] w fun e w' => e = .returned (.agg #[.int .i32 (dv a b c d).1, .int .i32 (dv a b c d).2]) ∧ Below w.heap.size w w' := by
  by_cases hz : c = 0 ∧ d = 0
  · obtain ⟨rfl, rfl⟩ := hz
    have e : dv a b 0 0 = (1, 0) := by unfold dv; rw [if_pos ⟨rfl, rfl⟩]
    rw [e]
    exact div_zero a b w
  by_cases hf : (a ≤ -2147483648 ∧ -2147483648 ≤ b) ∧ (c ≤ -1 ∧ -1 ≤ d)
  · have e : dv a b c d = (-2147483648, 2147483647) := by unfold dv; rw [if_neg hz, if_pos hf]
    rw [e]
    exact div_full a b c d (beq_eq_false_iff_ne.mpr (by omega)) (by unfold ct; simp only [decide_eq_true_eq]; exact hf.1) (by unfold ct; simp only [decide_eq_true_eq]; exact hf.2) w
  have hf2 : (ct a b (-2147483648) && ct c d (-1)) = false := by
    unfold ct
    rw [← Bool.decide_and, decide_eq_false_iff_not]
    exact hf
  have e : dv a b c d = dpart (dpart (1, 0) a b (met c d (-2147483648) (-1))) a b (met c d 1 2147483647) := by unfold dv; rw [if_neg hz, if_neg hf]
  rw [e]
  by_cases h1 : c < 0
  · have em : met c d (-2147483648) (-1) = (c, min d (-1)) := by
      unfold met; rw [if_neg (by omega)]; congr 1; omega
    have c0 : (c == 0) = false := beq_eq_false_iff_ne.mpr (by omega)
    by_cases h2 : 0 < d
    · have eq : met c d 1 2147483647 = (1, d) := by
        unfold met; rw [if_neg (by omega)]; congr 1 <;> omega
      rw [em, eq]
      unfold dpart
      dsimp only
      rw [if_neg (by omega), if_neg (by omega)]
      refine div_both a b c d c (min d (-1)) 1 d _ _ _ _ _ _ _ _ c0 _ rfl hf2 (fun w => meet_r _ _ _ _ _ _ em w) (fun w => meet_r _ _ _ _ _ _ eq w) (decide_eq_false (by omega)) (decide_eq_false (by omega))
        (fun w => quo_c a b c (min d (-1)) ha ha1 hb hb1 hc hc1 (by omega) (by omega) (by omega) (by omega) w) (fun w => join_c 1 0 _ _ w)
        (fun w => quo_c a b 1 d ha ha1 hb hb1 (by omega) (by omega) hd hd1 (by omega) (by omega) w) (fun w => join_c _ _ _ _ w) w
    · have eq : met c d 1 2147483647 = (1, 0) := by
        unfold met; rw [if_pos (by omega)]
      rw [em, eq]
      unfold dpart
      dsimp only
      rw [if_pos (by omega), if_neg (by omega)]
      refine div_neg a b c d c (min d (-1)) 1 0 _ _ _ _ c0 _ rfl hf2 (fun w => meet_r _ _ _ _ _ _ em w) (fun w => meet_r _ _ _ _ _ _ eq w) (decide_eq_false (by omega)) (decide_eq_true (by omega))
        (fun w => quo_c a b c (min d (-1)) ha ha1 hb hb1 hc hc1 (by omega) (by omega) (by omega) (by omega) w) (fun w => join_c 1 0 _ _ w) w
  · have em : met c d (-2147483648) (-1) = (1, 0) := by
      unfold met; rw [if_pos (by omega)]
    have eq : met c d 1 2147483647 = (max c 1, d) := by
      unfold met; rw [if_neg (by omega)]; congr 1; omega
    rw [em, eq]
    unfold dpart
    dsimp only
    rw [if_neg (by omega), if_pos (by omega)]
    by_cases h0 : c = 0
    · subst h0
      refine div_pos0 a b d 1 0 (max 0 1) d _ _ _ _ (beq_eq_false_iff_ne.mpr (by omega)) _ rfl hf2 (fun w => meet_r _ _ _ _ _ _ em w) (fun w => meet_r _ _ _ _ _ _ eq w) (decide_eq_true (by omega)) (decide_eq_false (by omega))
        (fun w => quo_c a b (max 0 1) d ha ha1 hb hb1 (by omega) (by omega) hd hd1 (by omega) (by omega) w) (fun w => join_c _ _ _ _ w) w
    · refine div_pos a b c d 1 0 (max c 1) d _ _ _ _ (beq_eq_false_iff_ne.mpr h0) _ rfl hf2 (fun w => meet_r _ _ _ _ _ _ em w) (fun w => meet_r _ _ _ _ _ _ eq w) (decide_eq_true (by omega)) (decide_eq_false (by omega))
        (fun w => quo_c a b (max c 1) d ha ha1 hb hb1 (by omega) (by omega) hd hd1 (by omega) (by omega) w) (fun w => join_c _ _ _ _ w) w

end Go.Proofs.Ytcchelfopbgolaa.Divides
