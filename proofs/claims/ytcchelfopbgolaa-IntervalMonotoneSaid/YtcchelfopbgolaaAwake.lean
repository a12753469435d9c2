/- The contract of the law's awake. Conditions: as each theorem says. -/
import Derived.Test.YtcchelfopbgolaaApply
namespace Go.Proofs.Ytcchelfopbgolaa.Awake
open Go.RowKit Go.Proofs.Ytcchelfopbgolaa.PIntervalSets Go.Proofs.YtcchelfopbgolaaW.PrintWords Go.Proofs.YtcchelfopbgolaaW.PrintLast Go.Proofs.YtcchelfopbgolaaW.PrintMore
open Go.Proofs.YtcchelfopbgolaaPlain Base Blocks Small Corners Divide Divides Decide Apply
set_option linter.unusedSimpArgs false
set_option linter.unusedVariables false

theorem apply_r (k a b c d r s : Int) (ha : -2147483648 ≤ a) (ha1 : a ≤ 2147483647) (hb : -2147483648 ≤ b) (hb1 : b ≤ 2147483647) (hc : -2147483648 ≤ c) (hc1 : c ≤ 2147483647) (hd : -2147483648 ≤ d) (hd1 : d ≤ 2147483647) (h : iap k a b c d = (r, s)) (w : World) :
    Calls Try.prog 20 #[.int .u8 k, .agg #[.int .i32 a, .int .i32 b], .agg #[.int .i32 c, .int .i32 d]] w fun e w' => e = .returned (.agg #[.int .i32 r, .int .i32 s]) ∧ Below w.heap.size w w' := by
  have := apply_c k a b c d ha ha1 hb hb1 hc hc1 hd hd1 w
  rwa [h] at this

set_option maxRecDepth 100000 in
set_option maxHeartbeats 4000000 in
theorem awake_c (w : World) : Calls Try.prog 13 #[] w fun e w' => e = .returned (.bool true) ∧ Below w.heap.size w w' := by
  have X0 := Lib.hid (show iap 6 1 2 10 20 = (11, 22) by decide +kernel)
  have X1 := Lib.hid (show iap 8 (-2) 3 4 5 = ((-10), 15) by decide +kernel)
  have X2 := Lib.hid (show iap 6 0 1 2147483647 2147483647 = ((-2147483648), 2147483647) by decide +kernel)
  have X3 := Lib.hid (show iap 10 (-9) 40 3 8 = ((-7), 7) by decide +kernel)
  have F := Fr.nil w
  have hu23 := Try.underlying23
  go_enter Try.func13, Try.ntmps13
  go_wp2_with (first | (go_at_call 28; ((with_reducible refine (mk_c _ _ _).mono ?_); rintro e w1 ⟨rfl, hb⟩; have F : Fr w w1 [] := (by first | exact F.call hb | exact (F.drewN _).call hb | exact F.drew.call hb))) | (go_at_call 27; ((with_reducible refine (of_c _ _).mono ?_); rintro e w1 ⟨rfl, hb⟩; have F : Fr w w1 [] := (by first | exact F.call hb | exact (F.drewN _).call hb | exact F.drew.call hb))) | (go_at_call 25; ((with_reducible refine (full_c _).mono ?_); rintro e w1 ⟨rfl, hb⟩; have F : Fr w w1 [] := (by first | exact F.call hb | exact (F.drewN _).call hb | exact F.drew.call hb))) | (go_at_call 18; ((with_reducible refine (empty_c _).mono ?_); rintro e w1 ⟨rfl, hb⟩; have F : Fr w w1 [] := (by first | exact F.call hb | exact (F.drewN _).call hb | exact F.drew.call hb))) | (go_at_call 17; ((with_reducible refine (isEmpty_c _ _ _).mono ?_); rintro e w1 ⟨rfl, hb⟩; have F : Fr w w1 [] := (by first | exact F.call hb | exact (F.drewN _).call hb | exact F.drew.call hb))) | (go_at_call 20; ((with_reducible refine (apply_r 6 1 2 10 20 11 22 (by omega) (by omega) (by omega) (by omega) (by omega) (by omega) (by omega) (by omega) X0.out _).mono ?_); rintro e w1 ⟨rfl, hb⟩; have F : Fr w w1 [] := (by first | exact F.call hb | exact (F.drewN _).call hb | exact F.drew.call hb))) | (go_at_call 20; ((with_reducible refine (apply_r 8 (-2) 3 4 5 (-10) 15 (by omega) (by omega) (by omega) (by omega) (by omega) (by omega) (by omega) (by omega) X1.out _).mono ?_); rintro e w1 ⟨rfl, hb⟩; have F : Fr w w1 [] := (by first | exact F.call hb | exact (F.drewN _).call hb | exact F.drew.call hb))) | (go_at_call 20; ((with_reducible refine (apply_r 6 0 1 2147483647 2147483647 (-2147483648) 2147483647 (by omega) (by omega) (by omega) (by omega) (by omega) (by omega) (by omega) (by omega) X2.out _).mono ?_); rintro e w1 ⟨rfl, hb⟩; have F : Fr w w1 [] := (by first | exact F.call hb | exact (F.drewN _).call hb | exact F.drew.call hb))) | (go_at_call 20; ((with_reducible refine (apply_r 10 (-9) 40 3 8 (-7) 7 (by omega) (by omega) (by omega) (by omega) (by omega) (by omega) (by omega) (by omega) X3.out _).mono ?_); rintro e w1 ⟨rfl, hb⟩; have F : Fr w w1 [] := (by first | exact F.call hb | exact (F.drewN _).call hb | exact F.drew.call hb))))
  go_ret
  exact ⟨by first | rfl | (simp; done), F.below⟩

end Go.Proofs.Ytcchelfopbgolaa.Awake
