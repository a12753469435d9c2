-- PRINTED BY print.sh 35421559b90ae4d0a3588c463048766b98c2df88dd9212a6774a882060cdf62d: not written by this session
import Derived.Test.YtjddfmbdollcnaaPWordApplyx0
import Derived.Test.YtjddfmbdollcnaaPWordApplyx1
namespace Go.Proofs.Ytjddfmbdollcnaa.PWordApply
open Go.RowKit Go.Proofs.YtjddfmbdollcnaaW.PrintWords Go.Proofs.YtjddfmbdollcnaaW.PrintLast Go.Proofs.YtjddfmbdollcnaaW.PrintMore
attribute [local go_sem] max2_int min2_int max_two min_two max_three min_three max_four min_four   -- for this text's walks alone
set_option linter.unusedVariables false
set_option linter.unusedSimpArgs false

/-! ### ontimeref03_bits: function 23 -/
def ontimeref03_bits.l0 : Nat → Int → Int → Int → Int → Int → Int → Option (Int)
  | 0, _, _, _, _, _, _ => none
  | k + 1, x0, x1, x2, x7, x8, x9 => if x9 < 32 then ((ontimeref03_bit.f k x1 x9).bind fun t114 => ((ontimeref03_bit.f k x2 x9).bind fun t115 => (if x0 = 11 then (if (wrap64 (t114 + t115)) = 2 then (ontimeref03_bits.l0 k x0 x1 x2 (wrap64 (x7 + x8)) (wrap64 (2 * x8)) (wrap64 (x9 + 1))) else (if x0 = 12 then (if (wrap64 (t114 + t115)) ≥ 1 then (ontimeref03_bits.l0 k x0 x1 x2 (wrap64 (x7 + x8)) (wrap64 (2 * x8)) (wrap64 (x9 + 1))) else (if x0 = 13 then (if (wrap64 (t114 + t115)) = 1 then (ontimeref03_bits.l0 k x0 x1 x2 (wrap64 (x7 + x8)) (wrap64 (2 * x8)) (wrap64 (x9 + 1))) else (ontimeref03_bits.l0 k x0 x1 x2 x7 (wrap64 (2 * x8)) (wrap64 (x9 + 1)))) else (ontimeref03_bits.l0 k x0 x1 x2 x7 (wrap64 (2 * x8)) (wrap64 (x9 + 1))))) else (if x0 = 13 then (if (wrap64 (t114 + t115)) = 1 then (ontimeref03_bits.l0 k x0 x1 x2 (wrap64 (x7 + x8)) (wrap64 (2 * x8)) (wrap64 (x9 + 1))) else (ontimeref03_bits.l0 k x0 x1 x2 x7 (wrap64 (2 * x8)) (wrap64 (x9 + 1)))) else (ontimeref03_bits.l0 k x0 x1 x2 x7 (wrap64 (2 * x8)) (wrap64 (x9 + 1)))))) else (if x0 = 12 then (if (wrap64 (t114 + t115)) ≥ 1 then (ontimeref03_bits.l0 k x0 x1 x2 (wrap64 (x7 + x8)) (wrap64 (2 * x8)) (wrap64 (x9 + 1))) else (if x0 = 13 then (if (wrap64 (t114 + t115)) = 1 then (ontimeref03_bits.l0 k x0 x1 x2 (wrap64 (x7 + x8)) (wrap64 (2 * x8)) (wrap64 (x9 + 1))) else (ontimeref03_bits.l0 k x0 x1 x2 x7 (wrap64 (2 * x8)) (wrap64 (x9 + 1)))) else (ontimeref03_bits.l0 k x0 x1 x2 x7 (wrap64 (2 * x8)) (wrap64 (x9 + 1))))) else (if x0 = 13 then (if (wrap64 (t114 + t115)) = 1 then (ontimeref03_bits.l0 k x0 x1 x2 (wrap64 (x7 + x8)) (wrap64 (2 * x8)) (wrap64 (x9 + 1))) else (ontimeref03_bits.l0 k x0 x1 x2 x7 (wrap64 (2 * x8)) (wrap64 (x9 + 1)))) else (ontimeref03_bits.l0 k x0 x1 x2 x7 (wrap64 (2 * x8)) (wrap64 (x9 + 1)))))))) else ((ontimeref03_Wrap.f x7).bind fun t113 => (some t113))
def ontimeref03_bits.f (k : Nat) (a0 : Int) (a1 : Int) (a2 : Int) : Option (Int) := ontimeref03_bits.l0 k a0 a1 a2 0 1 0
theorem ontimeref03_bits.mono_l : ∀ k, (∀ y0 y1 y2 y3 y4 y5, LeO (ontimeref03_bits.l0 k y0 y1 y2 y3 y4 y5) (ontimeref03_bits.l0 (k + 1) y0 y1 y2 y3 y4 y5))
  | 0 => fun _ _ _ _ _ _ r h => by simp [ontimeref03_bits.l0] at h
  | k + 1 => by
    have ih0 := ontimeref03_bits.mono_l k
    · intro y0 y1 y2 y3 y4 y5
      unfold ontimeref03_bits.l0
      repeat' first
      | (with_reducible exact ih0 _ _ _ _ _ _)
      | (with_reducible exact ontimeref03_bit.mono _ _ _)
      | (with_reducible exact LeO.refl _)
      | (with_reducible exact LeO.none _)
      | (with_reducible refine LeO.ite ?_ ?_)
      | (with_reducible refine LeO.bind ?_ (fun _ => ?_))
      | exact ih0 _ _ _ _ _ _
      | exact ontimeref03_bit.mono _ _ _
      | exact LeO.none _
      | refine LeO.ite ?_ ?_
      | refine LeO.bind ?_ (fun _ => ?_)
theorem ontimeref03_bits.mono : ∀ a0 a1 a2 k, LeO (ontimeref03_bits.f k a0 a1 a2) (ontimeref03_bits.f (k + 1) a0 a1 a2) := by
  intro a0 a1 a2 k
  have ih0 := ontimeref03_bits.mono_l k
  unfold ontimeref03_bits.f
  repeat' first
      | (with_reducible exact ih0 _ _ _ _ _ _)
      | (with_reducible exact ontimeref03_bit.mono _ _ _)
      | (with_reducible exact LeO.refl _)
      | (with_reducible exact LeO.none _)
      | (with_reducible refine LeO.ite ?_ ?_)
      | (with_reducible refine LeO.bind ?_ (fun _ => ?_))
      | exact ih0 _ _ _ _ _ _
      | exact ontimeref03_bit.mono _ _ _
      | exact LeO.none _
      | refine LeO.ite ?_ ?_
      | refine LeO.bind ?_ (fun _ => ?_)
set_option maxHeartbeats 8000000 in
set_option maxRecDepth 100000 in
theorem ontimeref03_bits.calls (k : Nat) (a0 : Int) (a1 : Int) (a2 : Int) (r : Int) (w : World) (h : ontimeref03_bits.f k a0 a1 a2 = some r) :
    Calls Try.prog 23 #[.int .u8 a0, .int .i32 a1, .int .i32 a2] w fun e w' => e = .returned (.int .i32 r) ∧ Drawn0 w w' := by
  have H : (ontimeref03_bits.l0 k a0 a1 a2 0 1 0) = some r := h
  clear h
  have H' := Aside0.mk H
  clear H
  go_enter Try.func23, Try.ntmps23
  go_wp2
  go_loopg [7, 8, 9] k (fun kq v7 v8 v9 w' => ∃ (x7_1 : Int) (x8_1 : Int) (x9_1 : Int), v7 = .int .i64 x7_1 ∧ v8 = .int .i64 x8_1 ∧ v9 = .int .i64 x9_1 ∧ Aside0 (ontimeref03_bits.l0 kq a0 a1 a2 x7_1 x8_1 x9_1 = some r) ∧ Aside0 (kq ≤ k) ∧ Drawn0 w w')
  case atStart => exact ⟨(0), (1), (0), (by first | rfl | (simp; done) | (simp [*]; done)), (by first | rfl | (simp; done) | (simp [*]; done)), (by first | rfl | (simp; done) | (simp [*]; done)), H', ⟨Nat.le_refl _⟩, by repeat (first | exact Drawn0.refl _ | apply Drawn0.step)⟩
  case round =>
    clear H'
    try clear c2
    try clear p2
    obtain ⟨x7_1, x8_1, x9_1, rfl, rfl, rfl, HA, HK1, ⟨m1, rfl⟩⟩ := hrel
    cases gk with
    | zero => exact absurd HA.out (by simp [ontimeref03_bits.l0])
    | succ k1 =>
      have H := HA.out
      clear HA
      simp only [ontimeref03_bits.l0] at H
      by_cases c4 : x9_1 < 32
      · rw [if_pos c4] at H
        have c4b0 : decide (x9_1 < 32) = true := decide_eq_true c4
        clear c4
        replace H := Option.bind_eq_some_iff.mp H
        obtain ⟨t114, A50, H⟩ := H
        replace H : ((ontimeref03_bit.f k1 a2 x9_1).bind fun t115 => (if a0 = 11 then (if (wrap64 (t114 + t115)) = 2 then (ontimeref03_bits.l0 k1 a0 a1 a2 (wrap64 (x7_1 + x8_1)) (wrap64 (2 * x8_1)) (wrap64 (x9_1 + 1))) else (if a0 = 12 then (if (wrap64 (t114 + t115)) ≥ 1 then (ontimeref03_bits.l0 k1 a0 a1 a2 (wrap64 (x7_1 + x8_1)) (wrap64 (2 * x8_1)) (wrap64 (x9_1 + 1))) else (if a0 = 13 then (if (wrap64 (t114 + t115)) = 1 then (ontimeref03_bits.l0 k1 a0 a1 a2 (wrap64 (x7_1 + x8_1)) (wrap64 (2 * x8_1)) (wrap64 (x9_1 + 1))) else (ontimeref03_bits.l0 k1 a0 a1 a2 x7_1 (wrap64 (2 * x8_1)) (wrap64 (x9_1 + 1)))) else (ontimeref03_bits.l0 k1 a0 a1 a2 x7_1 (wrap64 (2 * x8_1)) (wrap64 (x9_1 + 1))))) else (if a0 = 13 then (if (wrap64 (t114 + t115)) = 1 then (ontimeref03_bits.l0 k1 a0 a1 a2 (wrap64 (x7_1 + x8_1)) (wrap64 (2 * x8_1)) (wrap64 (x9_1 + 1))) else (ontimeref03_bits.l0 k1 a0 a1 a2 x7_1 (wrap64 (2 * x8_1)) (wrap64 (x9_1 + 1)))) else (ontimeref03_bits.l0 k1 a0 a1 a2 x7_1 (wrap64 (2 * x8_1)) (wrap64 (x9_1 + 1)))))) else (if a0 = 12 then (if (wrap64 (t114 + t115)) ≥ 1 then (ontimeref03_bits.l0 k1 a0 a1 a2 (wrap64 (x7_1 + x8_1)) (wrap64 (2 * x8_1)) (wrap64 (x9_1 + 1))) else (if a0 = 13 then (if (wrap64 (t114 + t115)) = 1 then (ontimeref03_bits.l0 k1 a0 a1 a2 (wrap64 (x7_1 + x8_1)) (wrap64 (2 * x8_1)) (wrap64 (x9_1 + 1))) else (ontimeref03_bits.l0 k1 a0 a1 a2 x7_1 (wrap64 (2 * x8_1)) (wrap64 (x9_1 + 1)))) else (ontimeref03_bits.l0 k1 a0 a1 a2 x7_1 (wrap64 (2 * x8_1)) (wrap64 (x9_1 + 1))))) else (if a0 = 13 then (if (wrap64 (t114 + t115)) = 1 then (ontimeref03_bits.l0 k1 a0 a1 a2 (wrap64 (x7_1 + x8_1)) (wrap64 (2 * x8_1)) (wrap64 (x9_1 + 1))) else (ontimeref03_bits.l0 k1 a0 a1 a2 x7_1 (wrap64 (2 * x8_1)) (wrap64 (x9_1 + 1)))) else (ontimeref03_bits.l0 k1 a0 a1 a2 x7_1 (wrap64 (2 * x8_1)) (wrap64 (x9_1 + 1))))))) = some r := H
        have A5 := Aside0.mk A50
        clear A50
        replace H := Option.bind_eq_some_iff.mp H
        obtain ⟨t115, A60, H⟩ := H
        replace H : (if a0 = 11 then (if (wrap64 (t114 + t115)) = 2 then (ontimeref03_bits.l0 k1 a0 a1 a2 (wrap64 (x7_1 + x8_1)) (wrap64 (2 * x8_1)) (wrap64 (x9_1 + 1))) else (if a0 = 12 then (if (wrap64 (t114 + t115)) ≥ 1 then (ontimeref03_bits.l0 k1 a0 a1 a2 (wrap64 (x7_1 + x8_1)) (wrap64 (2 * x8_1)) (wrap64 (x9_1 + 1))) else (if a0 = 13 then (if (wrap64 (t114 + t115)) = 1 then (ontimeref03_bits.l0 k1 a0 a1 a2 (wrap64 (x7_1 + x8_1)) (wrap64 (2 * x8_1)) (wrap64 (x9_1 + 1))) else (ontimeref03_bits.l0 k1 a0 a1 a2 x7_1 (wrap64 (2 * x8_1)) (wrap64 (x9_1 + 1)))) else (ontimeref03_bits.l0 k1 a0 a1 a2 x7_1 (wrap64 (2 * x8_1)) (wrap64 (x9_1 + 1))))) else (if a0 = 13 then (if (wrap64 (t114 + t115)) = 1 then (ontimeref03_bits.l0 k1 a0 a1 a2 (wrap64 (x7_1 + x8_1)) (wrap64 (2 * x8_1)) (wrap64 (x9_1 + 1))) else (ontimeref03_bits.l0 k1 a0 a1 a2 x7_1 (wrap64 (2 * x8_1)) (wrap64 (x9_1 + 1)))) else (ontimeref03_bits.l0 k1 a0 a1 a2 x7_1 (wrap64 (2 * x8_1)) (wrap64 (x9_1 + 1)))))) else (if a0 = 12 then (if (wrap64 (t114 + t115)) ≥ 1 then (ontimeref03_bits.l0 k1 a0 a1 a2 (wrap64 (x7_1 + x8_1)) (wrap64 (2 * x8_1)) (wrap64 (x9_1 + 1))) else (if a0 = 13 then (if (wrap64 (t114 + t115)) = 1 then (ontimeref03_bits.l0 k1 a0 a1 a2 (wrap64 (x7_1 + x8_1)) (wrap64 (2 * x8_1)) (wrap64 (x9_1 + 1))) else (ontimeref03_bits.l0 k1 a0 a1 a2 x7_1 (wrap64 (2 * x8_1)) (wrap64 (x9_1 + 1)))) else (ontimeref03_bits.l0 k1 a0 a1 a2 x7_1 (wrap64 (2 * x8_1)) (wrap64 (x9_1 + 1))))) else (if a0 = 13 then (if (wrap64 (t114 + t115)) = 1 then (ontimeref03_bits.l0 k1 a0 a1 a2 (wrap64 (x7_1 + x8_1)) (wrap64 (2 * x8_1)) (wrap64 (x9_1 + 1))) else (ontimeref03_bits.l0 k1 a0 a1 a2 x7_1 (wrap64 (2 * x8_1)) (wrap64 (x9_1 + 1)))) else (ontimeref03_bits.l0 k1 a0 a1 a2 x7_1 (wrap64 (2 * x8_1)) (wrap64 (x9_1 + 1)))))) = some r := H
        have A6 := Aside0.mk A60
        clear A60
        by_cases c7 : a0 = 11
        · rw [if_pos c7] at H
          have c7b0 : (a0 == 11) = true := beq_iff_eq.mpr c7
          have c7b1 : (a0 != 11) = false := bne_eq_false_iff_eq.mpr c7
          clear c7
          by_cases c8 : (wrap64 (t114 + t115)) = 2
          · rw [if_pos c8] at H
            have c8b0 : ((wrap64 (t114 + t115)) == 2) = true := beq_iff_eq.mpr c8
            have c8b1 : ((wrap64 (t114 + t115)) != 2) = false := bne_eq_false_iff_eq.mpr c8
            clear c8
            have H' := Aside0.mk H
            clear H
            go_wp2_with (first | ((with_reducible refine gate_callee (f := 28) rfl ?_); refine goesL_ (some 17) rfl rfl Try.func28 (by kernel_rfl) rfl #[.int .i32 a1, .int .i64 x9_1] rfl (by (try simp only [List.map_toArray, List.map_cons, List.map_nil]); first | done | rfl | (simp only [List.length_drop, List.length_take]; rfl)) ?_; (with_reducible refine (ontimeref03_bit.calls k1 a1 x9_1 t114 _ A5.out).mono ?_); rintro e w' ⟨rfl, ⟨nd, rfl⟩⟩; refine ⟨_, rfl, ?_⟩) | ((with_reducible refine gate_callee (f := 28) rfl ?_); refine goesL_ (some 20) rfl rfl Try.func28 (by kernel_rfl) rfl #[.int .i32 a2, .int .i64 x9_1] rfl (by (try simp only [List.map_toArray, List.map_cons, List.map_nil]); first | done | rfl | (simp only [List.length_drop, List.length_take]; rfl)) ?_; (with_reducible refine (ontimeref03_bit.calls k1 a2 x9_1 t115 _ A6.out).mono ?_); rintro e w' ⟨rfl, ⟨nd, rfl⟩⟩; refine ⟨_, rfl, ?_⟩))
            go_roundg k1
            case measure => have := HK1.out; omega
            case rel => exact ⟨(wrap64 (x7_1 + x8_1)), (wrap64 (2 * x8_1)), (wrap64 (x9_1 + 1)), (by first | rfl | (simp; done) | (simp [*]; done)), (by first | rfl | (simp; done) | (simp [*]; done)), (by first | rfl | (simp; done) | (simp [*]; done)), H', ⟨by have := HK1.out; omega⟩, by repeat (first | exact Drawn0.refl _ | apply Drawn0.step)⟩
          · rw [if_neg c8] at H
            have c8b0 : ((wrap64 (t114 + t115)) == 2) = false := beq_eq_false_iff_ne.mpr c8
            have c8b1 : ((wrap64 (t114 + t115)) != 2) = true := bne_iff_ne.mpr c8
            by_cases c9 : a0 = 12
            · rw [if_pos c9] at H
              have c9b0 : (a0 == 12) = true := beq_iff_eq.mpr c9
              have c9b1 : (a0 != 12) = false := bne_eq_false_iff_eq.mpr c9
              clear c9
              by_cases c10 : (wrap64 (t114 + t115)) ≥ 1
              · rw [if_pos c10] at H
                have c10b0 : decide (1 ≤ (wrap64 (t114 + t115))) = true := decide_eq_true c10
                clear c10
                have H' := Aside0.mk H
                clear H
                go_wp2_with (first | ((with_reducible refine gate_callee (f := 28) rfl ?_); refine goesL_ (some 17) rfl rfl Try.func28 (by kernel_rfl) rfl #[.int .i32 a1, .int .i64 x9_1] rfl (by (try simp only [List.map_toArray, List.map_cons, List.map_nil]); first | done | rfl | (simp only [List.length_drop, List.length_take]; rfl)) ?_; (with_reducible refine (ontimeref03_bit.calls k1 a1 x9_1 t114 _ A5.out).mono ?_); rintro e w' ⟨rfl, ⟨nd, rfl⟩⟩; refine ⟨_, rfl, ?_⟩) | ((with_reducible refine gate_callee (f := 28) rfl ?_); refine goesL_ (some 20) rfl rfl Try.func28 (by kernel_rfl) rfl #[.int .i32 a2, .int .i64 x9_1] rfl (by (try simp only [List.map_toArray, List.map_cons, List.map_nil]); first | done | rfl | (simp only [List.length_drop, List.length_take]; rfl)) ?_; (with_reducible refine (ontimeref03_bit.calls k1 a2 x9_1 t115 _ A6.out).mono ?_); rintro e w' ⟨rfl, ⟨nd, rfl⟩⟩; refine ⟨_, rfl, ?_⟩))
                go_roundg k1
                case measure => have := HK1.out; omega
                case rel => exact ⟨(wrap64 (x7_1 + x8_1)), (wrap64 (2 * x8_1)), (wrap64 (x9_1 + 1)), (by first | rfl | (simp; done) | (simp [*]; done)), (by first | rfl | (simp; done) | (simp [*]; done)), (by first | rfl | (simp; done) | (simp [*]; done)), H', ⟨by have := HK1.out; omega⟩, by repeat (first | exact Drawn0.refl _ | apply Drawn0.step)⟩
              · rw [if_neg c10] at H
                have c10b0 : decide (1 ≤ (wrap64 (t114 + t115))) = false := decide_eq_false c10
                clear c10
                by_cases c11 : a0 = 13
                · rw [if_pos c11] at H
                  have c11b0 : (a0 == 13) = true := beq_iff_eq.mpr c11
                  have c11b1 : (a0 != 13) = false := bne_eq_false_iff_eq.mpr c11
                  clear c11
                  by_cases c12 : (wrap64 (t114 + t115)) = 1
                  · rw [if_pos c12] at H
                    have c12b0 : ((wrap64 (t114 + t115)) == 1) = true := beq_iff_eq.mpr c12
                    have c12b1 : ((wrap64 (t114 + t115)) != 1) = false := bne_eq_false_iff_eq.mpr c12
                    clear c12
                    have H' := Aside0.mk H
                    clear H
                    go_wp2_with (first | ((with_reducible refine gate_callee (f := 28) rfl ?_); refine goesL_ (some 17) rfl rfl Try.func28 (by kernel_rfl) rfl #[.int .i32 a1, .int .i64 x9_1] rfl (by (try simp only [List.map_toArray, List.map_cons, List.map_nil]); first | done | rfl | (simp only [List.length_drop, List.length_take]; rfl)) ?_; (with_reducible refine (ontimeref03_bit.calls k1 a1 x9_1 t114 _ A5.out).mono ?_); rintro e w' ⟨rfl, ⟨nd, rfl⟩⟩; refine ⟨_, rfl, ?_⟩) | ((with_reducible refine gate_callee (f := 28) rfl ?_); refine goesL_ (some 20) rfl rfl Try.func28 (by kernel_rfl) rfl #[.int .i32 a2, .int .i64 x9_1] rfl (by (try simp only [List.map_toArray, List.map_cons, List.map_nil]); first | done | rfl | (simp only [List.length_drop, List.length_take]; rfl)) ?_; (with_reducible refine (ontimeref03_bit.calls k1 a2 x9_1 t115 _ A6.out).mono ?_); rintro e w' ⟨rfl, ⟨nd, rfl⟩⟩; refine ⟨_, rfl, ?_⟩))
                    go_roundg k1
                    case measure => have := HK1.out; omega
                    case rel => exact ⟨(wrap64 (x7_1 + x8_1)), (wrap64 (2 * x8_1)), (wrap64 (x9_1 + 1)), (by first | rfl | (simp; done) | (simp [*]; done)), (by first | rfl | (simp; done) | (simp [*]; done)), (by first | rfl | (simp; done) | (simp [*]; done)), H', ⟨by have := HK1.out; omega⟩, by repeat (first | exact Drawn0.refl _ | apply Drawn0.step)⟩
                  · rw [if_neg c12] at H
                    have c12b0 : ((wrap64 (t114 + t115)) == 1) = false := beq_eq_false_iff_ne.mpr c12
                    have c12b1 : ((wrap64 (t114 + t115)) != 1) = true := bne_iff_ne.mpr c12
                    have H' := Aside0.mk H
                    clear H
                    go_wp2_with (first | ((with_reducible refine gate_callee (f := 28) rfl ?_); refine goesL_ (some 17) rfl rfl Try.func28 (by kernel_rfl) rfl #[.int .i32 a1, .int .i64 x9_1] rfl (by (try simp only [List.map_toArray, List.map_cons, List.map_nil]); first | done | rfl | (simp only [List.length_drop, List.length_take]; rfl)) ?_; (with_reducible refine (ontimeref03_bit.calls k1 a1 x9_1 t114 _ A5.out).mono ?_); rintro e w' ⟨rfl, ⟨nd, rfl⟩⟩; refine ⟨_, rfl, ?_⟩) | ((with_reducible refine gate_callee (f := 28) rfl ?_); refine goesL_ (some 20) rfl rfl Try.func28 (by kernel_rfl) rfl #[.int .i32 a2, .int .i64 x9_1] rfl (by (try simp only [List.map_toArray, List.map_cons, List.map_nil]); first | done | rfl | (simp only [List.length_drop, List.length_take]; rfl)) ?_; (with_reducible refine (ontimeref03_bit.calls k1 a2 x9_1 t115 _ A6.out).mono ?_); rintro e w' ⟨rfl, ⟨nd, rfl⟩⟩; refine ⟨_, rfl, ?_⟩))
                    go_roundg k1
                    case measure => have := HK1.out; omega
                    case rel => exact ⟨(x7_1), (wrap64 (2 * x8_1)), (wrap64 (x9_1 + 1)), (by first | rfl | (simp; done) | (simp [*]; done)), (by first | rfl | (simp; done) | (simp [*]; done)), (by first | rfl | (simp; done) | (simp [*]; done)), H', ⟨by have := HK1.out; omega⟩, by repeat (first | exact Drawn0.refl _ | apply Drawn0.step)⟩
                · rw [if_neg c11] at H
                  have c11b0 : (a0 == 13) = false := beq_eq_false_iff_ne.mpr c11
                  have c11b1 : (a0 != 13) = true := bne_iff_ne.mpr c11
                  have H' := Aside0.mk H
                  clear H
                  go_wp2_with (first | ((with_reducible refine gate_callee (f := 28) rfl ?_); refine goesL_ (some 17) rfl rfl Try.func28 (by kernel_rfl) rfl #[.int .i32 a1, .int .i64 x9_1] rfl (by (try simp only [List.map_toArray, List.map_cons, List.map_nil]); first | done | rfl | (simp only [List.length_drop, List.length_take]; rfl)) ?_; (with_reducible refine (ontimeref03_bit.calls k1 a1 x9_1 t114 _ A5.out).mono ?_); rintro e w' ⟨rfl, ⟨nd, rfl⟩⟩; refine ⟨_, rfl, ?_⟩) | ((with_reducible refine gate_callee (f := 28) rfl ?_); refine goesL_ (some 20) rfl rfl Try.func28 (by kernel_rfl) rfl #[.int .i32 a2, .int .i64 x9_1] rfl (by (try simp only [List.map_toArray, List.map_cons, List.map_nil]); first | done | rfl | (simp only [List.length_drop, List.length_take]; rfl)) ?_; (with_reducible refine (ontimeref03_bit.calls k1 a2 x9_1 t115 _ A6.out).mono ?_); rintro e w' ⟨rfl, ⟨nd, rfl⟩⟩; refine ⟨_, rfl, ?_⟩))
                  go_roundg k1
                  case measure => have := HK1.out; omega
                  case rel => exact ⟨(x7_1), (wrap64 (2 * x8_1)), (wrap64 (x9_1 + 1)), (by first | rfl | (simp; done) | (simp [*]; done)), (by first | rfl | (simp; done) | (simp [*]; done)), (by first | rfl | (simp; done) | (simp [*]; done)), H', ⟨by have := HK1.out; omega⟩, by repeat (first | exact Drawn0.refl _ | apply Drawn0.step)⟩
            · rw [if_neg c9] at H
              have c9b0 : (a0 == 12) = false := beq_eq_false_iff_ne.mpr c9
              have c9b1 : (a0 != 12) = true := bne_iff_ne.mpr c9
              by_cases c13 : a0 = 13
              · rw [if_pos c13] at H
                have c13b0 : (a0 == 13) = true := beq_iff_eq.mpr c13
                have c13b1 : (a0 != 13) = false := bne_eq_false_iff_eq.mpr c13
                clear c13
                by_cases c14 : (wrap64 (t114 + t115)) = 1
                · rw [if_pos c14] at H
                  have c14b0 : ((wrap64 (t114 + t115)) == 1) = true := beq_iff_eq.mpr c14
                  have c14b1 : ((wrap64 (t114 + t115)) != 1) = false := bne_eq_false_iff_eq.mpr c14
                  clear c14
                  have H' := Aside0.mk H
                  clear H
                  go_wp2_with (first | ((with_reducible refine gate_callee (f := 28) rfl ?_); refine goesL_ (some 17) rfl rfl Try.func28 (by kernel_rfl) rfl #[.int .i32 a1, .int .i64 x9_1] rfl (by (try simp only [List.map_toArray, List.map_cons, List.map_nil]); first | done | rfl | (simp only [List.length_drop, List.length_take]; rfl)) ?_; (with_reducible refine (ontimeref03_bit.calls k1 a1 x9_1 t114 _ A5.out).mono ?_); rintro e w' ⟨rfl, ⟨nd, rfl⟩⟩; refine ⟨_, rfl, ?_⟩) | ((with_reducible refine gate_callee (f := 28) rfl ?_); refine goesL_ (some 20) rfl rfl Try.func28 (by kernel_rfl) rfl #[.int .i32 a2, .int .i64 x9_1] rfl (by (try simp only [List.map_toArray, List.map_cons, List.map_nil]); first | done | rfl | (simp only [List.length_drop, List.length_take]; rfl)) ?_; (with_reducible refine (ontimeref03_bit.calls k1 a2 x9_1 t115 _ A6.out).mono ?_); rintro e w' ⟨rfl, ⟨nd, rfl⟩⟩; refine ⟨_, rfl, ?_⟩))
                  go_roundg k1
                  case measure => have := HK1.out; omega
                  case rel => exact ⟨(wrap64 (x7_1 + x8_1)), (wrap64 (2 * x8_1)), (wrap64 (x9_1 + 1)), (by first | rfl | (simp; done) | (simp [*]; done)), (by first | rfl | (simp; done) | (simp [*]; done)), (by first | rfl | (simp; done) | (simp [*]; done)), H', ⟨by have := HK1.out; omega⟩, by repeat (first | exact Drawn0.refl _ | apply Drawn0.step)⟩
                · rw [if_neg c14] at H
                  have c14b0 : ((wrap64 (t114 + t115)) == 1) = false := beq_eq_false_iff_ne.mpr c14
                  have c14b1 : ((wrap64 (t114 + t115)) != 1) = true := bne_iff_ne.mpr c14
                  have H' := Aside0.mk H
                  clear H
                  go_wp2_with (first | ((with_reducible refine gate_callee (f := 28) rfl ?_); refine goesL_ (some 17) rfl rfl Try.func28 (by kernel_rfl) rfl #[.int .i32 a1, .int .i64 x9_1] rfl (by (try simp only [List.map_toArray, List.map_cons, List.map_nil]); first | done | rfl | (simp only [List.length_drop, List.length_take]; rfl)) ?_; (with_reducible refine (ontimeref03_bit.calls k1 a1 x9_1 t114 _ A5.out).mono ?_); rintro e w' ⟨rfl, ⟨nd, rfl⟩⟩; refine ⟨_, rfl, ?_⟩) | ((with_reducible refine gate_callee (f := 28) rfl ?_); refine goesL_ (some 20) rfl rfl Try.func28 (by kernel_rfl) rfl #[.int .i32 a2, .int .i64 x9_1] rfl (by (try simp only [List.map_toArray, List.map_cons, List.map_nil]); first | done | rfl | (simp only [List.length_drop, List.length_take]; rfl)) ?_; (with_reducible refine (ontimeref03_bit.calls k1 a2 x9_1 t115 _ A6.out).mono ?_); rintro e w' ⟨rfl, ⟨nd, rfl⟩⟩; refine ⟨_, rfl, ?_⟩))
                  go_roundg k1
                  case measure => have := HK1.out; omega
                  case rel => exact ⟨(x7_1), (wrap64 (2 * x8_1)), (wrap64 (x9_1 + 1)), (by first | rfl | (simp; done) | (simp [*]; done)), (by first | rfl | (simp; done) | (simp [*]; done)), (by first | rfl | (simp; done) | (simp [*]; done)), H', ⟨by have := HK1.out; omega⟩, by repeat (first | exact Drawn0.refl _ | apply Drawn0.step)⟩
              · rw [if_neg c13] at H
                have c13b0 : (a0 == 13) = false := beq_eq_false_iff_ne.mpr c13
                have c13b1 : (a0 != 13) = true := bne_iff_ne.mpr c13
                have H' := Aside0.mk H
                clear H
                go_wp2_with (first | ((with_reducible refine gate_callee (f := 28) rfl ?_); refine goesL_ (some 17) rfl rfl Try.func28 (by kernel_rfl) rfl #[.int .i32 a1, .int .i64 x9_1] rfl (by (try simp only [List.map_toArray, List.map_cons, List.map_nil]); first | done | rfl | (simp only [List.length_drop, List.length_take]; rfl)) ?_; (with_reducible refine (ontimeref03_bit.calls k1 a1 x9_1 t114 _ A5.out).mono ?_); rintro e w' ⟨rfl, ⟨nd, rfl⟩⟩; refine ⟨_, rfl, ?_⟩) | ((with_reducible refine gate_callee (f := 28) rfl ?_); refine goesL_ (some 20) rfl rfl Try.func28 (by kernel_rfl) rfl #[.int .i32 a2, .int .i64 x9_1] rfl (by (try simp only [List.map_toArray, List.map_cons, List.map_nil]); first | done | rfl | (simp only [List.length_drop, List.length_take]; rfl)) ?_; (with_reducible refine (ontimeref03_bit.calls k1 a2 x9_1 t115 _ A6.out).mono ?_); rintro e w' ⟨rfl, ⟨nd, rfl⟩⟩; refine ⟨_, rfl, ?_⟩))
                go_roundg k1
                case measure => have := HK1.out; omega
                case rel => exact ⟨(x7_1), (wrap64 (2 * x8_1)), (wrap64 (x9_1 + 1)), (by first | rfl | (simp; done) | (simp [*]; done)), (by first | rfl | (simp; done) | (simp [*]; done)), (by first | rfl | (simp; done) | (simp [*]; done)), H', ⟨by have := HK1.out; omega⟩, by repeat (first | exact Drawn0.refl _ | apply Drawn0.step)⟩
        · rw [if_neg c7] at H
          have c7b0 : (a0 == 11) = false := beq_eq_false_iff_ne.mpr c7
          have c7b1 : (a0 != 11) = true := bne_iff_ne.mpr c7
          by_cases c15 : a0 = 12
          · rw [if_pos c15] at H
            have c15b0 : (a0 == 12) = true := beq_iff_eq.mpr c15
            have c15b1 : (a0 != 12) = false := bne_eq_false_iff_eq.mpr c15
            clear c15
            by_cases c16 : (wrap64 (t114 + t115)) ≥ 1
            · rw [if_pos c16] at H
              have c16b0 : decide (1 ≤ (wrap64 (t114 + t115))) = true := decide_eq_true c16
              clear c16
              have H' := Aside0.mk H
              clear H
              go_wp2_with (first | ((with_reducible refine gate_callee (f := 28) rfl ?_); refine goesL_ (some 17) rfl rfl Try.func28 (by kernel_rfl) rfl #[.int .i32 a1, .int .i64 x9_1] rfl (by (try simp only [List.map_toArray, List.map_cons, List.map_nil]); first | done | rfl | (simp only [List.length_drop, List.length_take]; rfl)) ?_; (with_reducible refine (ontimeref03_bit.calls k1 a1 x9_1 t114 _ A5.out).mono ?_); rintro e w' ⟨rfl, ⟨nd, rfl⟩⟩; refine ⟨_, rfl, ?_⟩) | ((with_reducible refine gate_callee (f := 28) rfl ?_); refine goesL_ (some 20) rfl rfl Try.func28 (by kernel_rfl) rfl #[.int .i32 a2, .int .i64 x9_1] rfl (by (try simp only [List.map_toArray, List.map_cons, List.map_nil]); first | done | rfl | (simp only [List.length_drop, List.length_take]; rfl)) ?_; (with_reducible refine (ontimeref03_bit.calls k1 a2 x9_1 t115 _ A6.out).mono ?_); rintro e w' ⟨rfl, ⟨nd, rfl⟩⟩; refine ⟨_, rfl, ?_⟩))
              go_roundg k1
              case measure => have := HK1.out; omega
              case rel => exact ⟨(wrap64 (x7_1 + x8_1)), (wrap64 (2 * x8_1)), (wrap64 (x9_1 + 1)), (by first | rfl | (simp; done) | (simp [*]; done)), (by first | rfl | (simp; done) | (simp [*]; done)), (by first | rfl | (simp; done) | (simp [*]; done)), H', ⟨by have := HK1.out; omega⟩, by repeat (first | exact Drawn0.refl _ | apply Drawn0.step)⟩
            · rw [if_neg c16] at H
              have c16b0 : decide (1 ≤ (wrap64 (t114 + t115))) = false := decide_eq_false c16
              clear c16
              by_cases c17 : a0 = 13
              · rw [if_pos c17] at H
                have c17b0 : (a0 == 13) = true := beq_iff_eq.mpr c17
                have c17b1 : (a0 != 13) = false := bne_eq_false_iff_eq.mpr c17
                clear c17
                by_cases c18 : (wrap64 (t114 + t115)) = 1
                · rw [if_pos c18] at H
                  have c18b0 : ((wrap64 (t114 + t115)) == 1) = true := beq_iff_eq.mpr c18
                  have c18b1 : ((wrap64 (t114 + t115)) != 1) = false := bne_eq_false_iff_eq.mpr c18
                  clear c18
                  have H' := Aside0.mk H
                  clear H
                  go_wp2_with (first | ((with_reducible refine gate_callee (f := 28) rfl ?_); refine goesL_ (some 17) rfl rfl Try.func28 (by kernel_rfl) rfl #[.int .i32 a1, .int .i64 x9_1] rfl (by (try simp only [List.map_toArray, List.map_cons, List.map_nil]); first | done | rfl | (simp only [List.length_drop, List.length_take]; rfl)) ?_; (with_reducible refine (ontimeref03_bit.calls k1 a1 x9_1 t114 _ A5.out).mono ?_); rintro e w' ⟨rfl, ⟨nd, rfl⟩⟩; refine ⟨_, rfl, ?_⟩) | ((with_reducible refine gate_callee (f := 28) rfl ?_); refine goesL_ (some 20) rfl rfl Try.func28 (by kernel_rfl) rfl #[.int .i32 a2, .int .i64 x9_1] rfl (by (try simp only [List.map_toArray, List.map_cons, List.map_nil]); first | done | rfl | (simp only [List.length_drop, List.length_take]; rfl)) ?_; (with_reducible refine (ontimeref03_bit.calls k1 a2 x9_1 t115 _ A6.out).mono ?_); rintro e w' ⟨rfl, ⟨nd, rfl⟩⟩; refine ⟨_, rfl, ?_⟩))
                  go_roundg k1
                  case measure => have := HK1.out; omega
                  case rel => exact ⟨(wrap64 (x7_1 + x8_1)), (wrap64 (2 * x8_1)), (wrap64 (x9_1 + 1)), (by first | rfl | (simp; done) | (simp [*]; done)), (by first | rfl | (simp; done) | (simp [*]; done)), (by first | rfl | (simp; done) | (simp [*]; done)), H', ⟨by have := HK1.out; omega⟩, by repeat (first | exact Drawn0.refl _ | apply Drawn0.step)⟩
                · rw [if_neg c18] at H
                  have c18b0 : ((wrap64 (t114 + t115)) == 1) = false := beq_eq_false_iff_ne.mpr c18
                  have c18b1 : ((wrap64 (t114 + t115)) != 1) = true := bne_iff_ne.mpr c18
                  have H' := Aside0.mk H
                  clear H
                  go_wp2_with (first | ((with_reducible refine gate_callee (f := 28) rfl ?_); refine goesL_ (some 17) rfl rfl Try.func28 (by kernel_rfl) rfl #[.int .i32 a1, .int .i64 x9_1] rfl (by (try simp only [List.map_toArray, List.map_cons, List.map_nil]); first | done | rfl | (simp only [List.length_drop, List.length_take]; rfl)) ?_; (with_reducible refine (ontimeref03_bit.calls k1 a1 x9_1 t114 _ A5.out).mono ?_); rintro e w' ⟨rfl, ⟨nd, rfl⟩⟩; refine ⟨_, rfl, ?_⟩) | ((with_reducible refine gate_callee (f := 28) rfl ?_); refine goesL_ (some 20) rfl rfl Try.func28 (by kernel_rfl) rfl #[.int .i32 a2, .int .i64 x9_1] rfl (by (try simp only [List.map_toArray, List.map_cons, List.map_nil]); first | done | rfl | (simp only [List.length_drop, List.length_take]; rfl)) ?_; (with_reducible refine (ontimeref03_bit.calls k1 a2 x9_1 t115 _ A6.out).mono ?_); rintro e w' ⟨rfl, ⟨nd, rfl⟩⟩; refine ⟨_, rfl, ?_⟩))
                  go_roundg k1
                  case measure => have := HK1.out; omega
                  case rel => exact ⟨(x7_1), (wrap64 (2 * x8_1)), (wrap64 (x9_1 + 1)), (by first | rfl | (simp; done) | (simp [*]; done)), (by first | rfl | (simp; done) | (simp [*]; done)), (by first | rfl | (simp; done) | (simp [*]; done)), H', ⟨by have := HK1.out; omega⟩, by repeat (first | exact Drawn0.refl _ | apply Drawn0.step)⟩
              · rw [if_neg c17] at H
                have c17b0 : (a0 == 13) = false := beq_eq_false_iff_ne.mpr c17
                have c17b1 : (a0 != 13) = true := bne_iff_ne.mpr c17
                have H' := Aside0.mk H
                clear H
                go_wp2_with (first | ((with_reducible refine gate_callee (f := 28) rfl ?_); refine goesL_ (some 17) rfl rfl Try.func28 (by kernel_rfl) rfl #[.int .i32 a1, .int .i64 x9_1] rfl (by (try simp only [List.map_toArray, List.map_cons, List.map_nil]); first | done | rfl | (simp only [List.length_drop, List.length_take]; rfl)) ?_; (with_reducible refine (ontimeref03_bit.calls k1 a1 x9_1 t114 _ A5.out).mono ?_); rintro e w' ⟨rfl, ⟨nd, rfl⟩⟩; refine ⟨_, rfl, ?_⟩) | ((with_reducible refine gate_callee (f := 28) rfl ?_); refine goesL_ (some 20) rfl rfl Try.func28 (by kernel_rfl) rfl #[.int .i32 a2, .int .i64 x9_1] rfl (by (try simp only [List.map_toArray, List.map_cons, List.map_nil]); first | done | rfl | (simp only [List.length_drop, List.length_take]; rfl)) ?_; (with_reducible refine (ontimeref03_bit.calls k1 a2 x9_1 t115 _ A6.out).mono ?_); rintro e w' ⟨rfl, ⟨nd, rfl⟩⟩; refine ⟨_, rfl, ?_⟩))
                go_roundg k1
                case measure => have := HK1.out; omega
                case rel => exact ⟨(x7_1), (wrap64 (2 * x8_1)), (wrap64 (x9_1 + 1)), (by first | rfl | (simp; done) | (simp [*]; done)), (by first | rfl | (simp; done) | (simp [*]; done)), (by first | rfl | (simp; done) | (simp [*]; done)), H', ⟨by have := HK1.out; omega⟩, by repeat (first | exact Drawn0.refl _ | apply Drawn0.step)⟩
          · rw [if_neg c15] at H
            have c15b0 : (a0 == 12) = false := beq_eq_false_iff_ne.mpr c15
            have c15b1 : (a0 != 12) = true := bne_iff_ne.mpr c15
            by_cases c19 : a0 = 13
            · rw [if_pos c19] at H
              have c19b0 : (a0 == 13) = true := beq_iff_eq.mpr c19
              have c19b1 : (a0 != 13) = false := bne_eq_false_iff_eq.mpr c19
              clear c19
              by_cases c20 : (wrap64 (t114 + t115)) = 1
              · rw [if_pos c20] at H
                have c20b0 : ((wrap64 (t114 + t115)) == 1) = true := beq_iff_eq.mpr c20
                have c20b1 : ((wrap64 (t114 + t115)) != 1) = false := bne_eq_false_iff_eq.mpr c20
                clear c20
                have H' := Aside0.mk H
                clear H
                go_wp2_with (first | ((with_reducible refine gate_callee (f := 28) rfl ?_); refine goesL_ (some 17) rfl rfl Try.func28 (by kernel_rfl) rfl #[.int .i32 a1, .int .i64 x9_1] rfl (by (try simp only [List.map_toArray, List.map_cons, List.map_nil]); first | done | rfl | (simp only [List.length_drop, List.length_take]; rfl)) ?_; (with_reducible refine (ontimeref03_bit.calls k1 a1 x9_1 t114 _ A5.out).mono ?_); rintro e w' ⟨rfl, ⟨nd, rfl⟩⟩; refine ⟨_, rfl, ?_⟩) | ((with_reducible refine gate_callee (f := 28) rfl ?_); refine goesL_ (some 20) rfl rfl Try.func28 (by kernel_rfl) rfl #[.int .i32 a2, .int .i64 x9_1] rfl (by (try simp only [List.map_toArray, List.map_cons, List.map_nil]); first | done | rfl | (simp only [List.length_drop, List.length_take]; rfl)) ?_; (with_reducible refine (ontimeref03_bit.calls k1 a2 x9_1 t115 _ A6.out).mono ?_); rintro e w' ⟨rfl, ⟨nd, rfl⟩⟩; refine ⟨_, rfl, ?_⟩))
                go_roundg k1
                case measure => have := HK1.out; omega
                case rel => exact ⟨(wrap64 (x7_1 + x8_1)), (wrap64 (2 * x8_1)), (wrap64 (x9_1 + 1)), (by first | rfl | (simp; done) | (simp [*]; done)), (by first | rfl | (simp; done) | (simp [*]; done)), (by first | rfl | (simp; done) | (simp [*]; done)), H', ⟨by have := HK1.out; omega⟩, by repeat (first | exact Drawn0.refl _ | apply Drawn0.step)⟩
              · rw [if_neg c20] at H
                have c20b0 : ((wrap64 (t114 + t115)) == 1) = false := beq_eq_false_iff_ne.mpr c20
                have c20b1 : ((wrap64 (t114 + t115)) != 1) = true := bne_iff_ne.mpr c20
                have H' := Aside0.mk H
                clear H
                go_wp2_with (first | ((with_reducible refine gate_callee (f := 28) rfl ?_); refine goesL_ (some 17) rfl rfl Try.func28 (by kernel_rfl) rfl #[.int .i32 a1, .int .i64 x9_1] rfl (by (try simp only [List.map_toArray, List.map_cons, List.map_nil]); first | done | rfl | (simp only [List.length_drop, List.length_take]; rfl)) ?_; (with_reducible refine (ontimeref03_bit.calls k1 a1 x9_1 t114 _ A5.out).mono ?_); rintro e w' ⟨rfl, ⟨nd, rfl⟩⟩; refine ⟨_, rfl, ?_⟩) | ((with_reducible refine gate_callee (f := 28) rfl ?_); refine goesL_ (some 20) rfl rfl Try.func28 (by kernel_rfl) rfl #[.int .i32 a2, .int .i64 x9_1] rfl (by (try simp only [List.map_toArray, List.map_cons, List.map_nil]); first | done | rfl | (simp only [List.length_drop, List.length_take]; rfl)) ?_; (with_reducible refine (ontimeref03_bit.calls k1 a2 x9_1 t115 _ A6.out).mono ?_); rintro e w' ⟨rfl, ⟨nd, rfl⟩⟩; refine ⟨_, rfl, ?_⟩))
                go_roundg k1
                case measure => have := HK1.out; omega
                case rel => exact ⟨(x7_1), (wrap64 (2 * x8_1)), (wrap64 (x9_1 + 1)), (by first | rfl | (simp; done) | (simp [*]; done)), (by first | rfl | (simp; done) | (simp [*]; done)), (by first | rfl | (simp; done) | (simp [*]; done)), H', ⟨by have := HK1.out; omega⟩, by repeat (first | exact Drawn0.refl _ | apply Drawn0.step)⟩
            · rw [if_neg c19] at H
              have c19b0 : (a0 == 13) = false := beq_eq_false_iff_ne.mpr c19
              have c19b1 : (a0 != 13) = true := bne_iff_ne.mpr c19
              have H' := Aside0.mk H
              clear H
              go_wp2_with (first | ((with_reducible refine gate_callee (f := 28) rfl ?_); refine goesL_ (some 17) rfl rfl Try.func28 (by kernel_rfl) rfl #[.int .i32 a1, .int .i64 x9_1] rfl (by (try simp only [List.map_toArray, List.map_cons, List.map_nil]); first | done | rfl | (simp only [List.length_drop, List.length_take]; rfl)) ?_; (with_reducible refine (ontimeref03_bit.calls k1 a1 x9_1 t114 _ A5.out).mono ?_); rintro e w' ⟨rfl, ⟨nd, rfl⟩⟩; refine ⟨_, rfl, ?_⟩) | ((with_reducible refine gate_callee (f := 28) rfl ?_); refine goesL_ (some 20) rfl rfl Try.func28 (by kernel_rfl) rfl #[.int .i32 a2, .int .i64 x9_1] rfl (by (try simp only [List.map_toArray, List.map_cons, List.map_nil]); first | done | rfl | (simp only [List.length_drop, List.length_take]; rfl)) ?_; (with_reducible refine (ontimeref03_bit.calls k1 a2 x9_1 t115 _ A6.out).mono ?_); rintro e w' ⟨rfl, ⟨nd, rfl⟩⟩; refine ⟨_, rfl, ?_⟩))
              go_roundg k1
              case measure => have := HK1.out; omega
              case rel => exact ⟨(x7_1), (wrap64 (2 * x8_1)), (wrap64 (x9_1 + 1)), (by first | rfl | (simp; done) | (simp [*]; done)), (by first | rfl | (simp; done) | (simp [*]; done)), (by first | rfl | (simp; done) | (simp [*]; done)), H', ⟨by have := HK1.out; omega⟩, by repeat (first | exact Drawn0.refl _ | apply Drawn0.step)⟩
      · rw [if_neg c4] at H
        have c4b0 : decide (x9_1 < 32) = false := decide_eq_false c4
        clear c4
        replace H := Option.bind_eq_some_iff.mp H
        obtain ⟨t113, A210, H⟩ := H
        replace H : (some t113) = some r := H
        have A21 := Aside0.mk A210
        clear A210
        obtain rfl := Option.some.inj H
        go_wp2_with (first | ((with_reducible refine gate_callee (f := 22) rfl ?_); refine goesL_ (some 50) rfl rfl Try.func22 (by kernel_rfl) rfl #[.int .i64 x7_1] rfl (by (try simp only [List.map_toArray, List.map_cons, List.map_nil]); first | done | rfl | (simp only [List.length_drop, List.length_take]; rfl)) ?_; (with_reducible refine (ontimeref03_Wrap.calls x7_1 t113 _ A21.out).mono ?_); rintro e w' ⟨rfl, ⟨nd, rfl⟩⟩; refine ⟨_, rfl, ?_⟩))
        go_ret
        exact ⟨by first | rfl | (simp; done) | (simp [*]; done), by repeat (first | exact Drawn0.refl _ | apply Drawn0.step)⟩

/-! ### ontimeref03_Shift: function 24 -/
def ontimeref03_Shift.l0 : Nat → Int → Int → Bool → Int → Option (Int)
  | 0, _, _, _, _ => none
  | k + 1, x0, x1, x2, x7 => if x7 < x1 then (if x2 = true then ((ontimeref03_Wrap.f (wrap64 (2 * (wrap64 (x0))))).bind fun t116 => (ontimeref03_Shift.l0 k t116 x1 x2 (wrap64 (x7 + 1)))) else ((ontimeref03_bit.f k x0 0).bind fun t117 => (ontimeref03_Shift.l0 k (wrap32 (wrap64 (Int.tdiv (wrap64 ((wrap64 (x0)) - t117)) 2))) x1 x2 (wrap64 (x7 + 1))))) else (some x0)
def ontimeref03_Shift.f (k : Nat) (a0 : Int) (a1 : Int) (a2 : Bool) : Option (Int) := ontimeref03_Shift.l0 k a0 a1 a2 0
theorem ontimeref03_Shift.mono_l : ∀ k, (∀ y0 y1 y2 y3, LeO (ontimeref03_Shift.l0 k y0 y1 y2 y3) (ontimeref03_Shift.l0 (k + 1) y0 y1 y2 y3))
  | 0 => fun _ _ _ _ r h => by simp [ontimeref03_Shift.l0] at h
  | k + 1 => by
    have ih0 := ontimeref03_Shift.mono_l k
    · intro y0 y1 y2 y3
      unfold ontimeref03_Shift.l0
      repeat' first
      | (with_reducible exact ih0 _ _ _ _)
      | (with_reducible exact ontimeref03_bit.mono _ _ _)
      | (with_reducible exact LeO.refl _)
      | (with_reducible exact LeO.none _)
      | (with_reducible refine LeO.ite ?_ ?_)
      | (with_reducible refine LeO.bind ?_ (fun _ => ?_))
      | exact ih0 _ _ _ _
      | exact ontimeref03_bit.mono _ _ _
      | exact LeO.none _
      | refine LeO.ite ?_ ?_
      | refine LeO.bind ?_ (fun _ => ?_)
theorem ontimeref03_Shift.mono : ∀ a0 a1 a2 k, LeO (ontimeref03_Shift.f k a0 a1 a2) (ontimeref03_Shift.f (k + 1) a0 a1 a2) := by
  intro a0 a1 a2 k
  have ih0 := ontimeref03_Shift.mono_l k
  unfold ontimeref03_Shift.f
  repeat' first
      | (with_reducible exact ih0 _ _ _ _)
      | (with_reducible exact ontimeref03_bit.mono _ _ _)
      | (with_reducible exact LeO.refl _)
      | (with_reducible exact LeO.none _)
      | (with_reducible refine LeO.ite ?_ ?_)
      | (with_reducible refine LeO.bind ?_ (fun _ => ?_))
      | exact ih0 _ _ _ _
      | exact ontimeref03_bit.mono _ _ _
      | exact LeO.none _
      | refine LeO.ite ?_ ?_
      | refine LeO.bind ?_ (fun _ => ?_)
set_option maxHeartbeats 8000000 in
set_option maxRecDepth 100000 in
theorem ontimeref03_Shift.calls (k : Nat) (a0 : Int) (a1 : Int) (a2 : Bool) (r : Int) (w : World) (h : ontimeref03_Shift.f k a0 a1 a2 = some r) :
    Calls Try.prog 24 #[.int .i32 a0, .int .i64 a1, .bool a2] w fun e w' => e = .returned (.int .i32 r) ∧ Drawn0 w w' := by
  have H : (ontimeref03_Shift.l0 k a0 a1 a2 0) = some r := h
  clear h
  have H' := Aside0.mk H
  clear H
  go_enter Try.func24, Try.ntmps24
  go_wp2
  go_loopg [0, 7] k (fun kq v0 v7 w' => ∃ (x0_1 : Int) (x7_1 : Int), v0 = .int .i32 x0_1 ∧ v7 = .int .i64 x7_1 ∧ Aside0 (ontimeref03_Shift.l0 kq x0_1 a1 a2 x7_1 = some r) ∧ Aside0 (kq ≤ k) ∧ Drawn0 w w')
  case atStart => exact ⟨(a0), (0), (by first | rfl | (simp; done) | (simp [*]; done)), (by first | rfl | (simp; done) | (simp [*]; done)), H', ⟨Nat.le_refl _⟩, by repeat (first | exact Drawn0.refl _ | apply Drawn0.step)⟩
  case round =>
    clear H'
    try clear c2
    try clear p2
    obtain ⟨x0_1, x7_1, rfl, rfl, HA, HK1, ⟨m1, rfl⟩⟩ := hrel
    cases gk with
    | zero => exact absurd HA.out (by simp [ontimeref03_Shift.l0])
    | succ k1 =>
      have H := HA.out
      clear HA
      simp only [ontimeref03_Shift.l0] at H
      by_cases c4 : x7_1 < a1
      · rw [if_pos c4] at H
        have c4b0 : decide (x7_1 < a1) = true := decide_eq_true c4
        clear c4
        by_cases c5 : a2 = true
        · subst c5
          have H1 : ((ontimeref03_Wrap.f (wrap64 (2 * (wrap64 (x0_1))))).bind fun t116 => (ontimeref03_Shift.l0 k1 t116 a1 true (wrap64 (x7_1 + 1)))) = some r := by rw [if_pos rfl] at H; exact H
          clear H
          have H := H1
          clear H1
          replace H := Option.bind_eq_some_iff.mp H
          obtain ⟨t116, A60, H⟩ := H
          replace H : (ontimeref03_Shift.l0 k1 t116 a1 true (wrap64 (x7_1 + 1))) = some r := H
          have A6 := Aside0.mk A60
          clear A60
          have H' := Aside0.mk H
          clear H
          go_wp2_with (first | ((with_reducible refine gate_callee (f := 22) rfl ?_); refine goesL_ (some 18) rfl rfl Try.func22 (by kernel_rfl) rfl #[.int .i64 (wrap64 (2 * (wrap64 (x0_1))))] rfl (by (try simp only [List.map_toArray, List.map_cons, List.map_nil]); first | done | rfl | (simp only [List.length_drop, List.length_take]; rfl)) ?_; (with_reducible refine (ontimeref03_Wrap.calls (wrap64 (2 * (wrap64 (x0_1)))) t116 _ A6.out).mono ?_); rintro e w' ⟨rfl, ⟨nd, rfl⟩⟩; refine ⟨_, rfl, ?_⟩))
          go_roundg k1
          case measure => have := HK1.out; omega
          case rel => exact ⟨(t116), (wrap64 (x7_1 + 1)), (by first | rfl | (simp; done) | (simp [*]; done)), (by first | rfl | (simp; done) | (simp [*]; done)), H', ⟨by have := HK1.out; omega⟩, by repeat (first | exact Drawn0.refl _ | apply Drawn0.step)⟩
        · replace c5 := Bool.eq_false_iff.mpr c5
          subst c5
          have H1 : ((ontimeref03_bit.f k1 x0_1 0).bind fun t117 => (ontimeref03_Shift.l0 k1 (wrap32 (wrap64 (Int.tdiv (wrap64 ((wrap64 (x0_1)) - t117)) 2))) a1 false (wrap64 (x7_1 + 1)))) = some r := by rw [if_neg (show ¬ (false = true) by decide)] at H; exact H
          clear H
          have H := H1
          clear H1
          replace H := Option.bind_eq_some_iff.mp H
          obtain ⟨t117, A70, H⟩ := H
          replace H : (ontimeref03_Shift.l0 k1 (wrap32 (wrap64 (Int.tdiv (wrap64 ((wrap64 (x0_1)) - t117)) 2))) a1 false (wrap64 (x7_1 + 1))) = some r := H
          have A7 := Aside0.mk A70
          clear A70
          have H' := Aside0.mk H
          clear H
          go_wp2_with (first | ((with_reducible refine gate_callee (f := 28) rfl ?_); refine goesL_ (some 20) rfl rfl Try.func28 (by kernel_rfl) rfl #[.int .i32 x0_1, .int .i64 0] rfl (by (try simp only [List.map_toArray, List.map_cons, List.map_nil]); first | done | rfl | (simp only [List.length_drop, List.length_take]; rfl)) ?_; (with_reducible refine (ontimeref03_bit.calls k1 x0_1 0 t117 _ A7.out).mono ?_); rintro e w' ⟨rfl, ⟨nd, rfl⟩⟩; refine ⟨_, rfl, ?_⟩))
          go_roundg k1
          case measure => have := HK1.out; omega
          case rel => exact ⟨(wrap32 (wrap64 (Int.tdiv (wrap64 ((wrap64 (x0_1)) - t117)) 2))), (wrap64 (x7_1 + 1)), (by first | rfl | (simp; done) | (simp [*]; done)), (by first | rfl | (simp; done) | (simp [*]; done)), H', ⟨by have := HK1.out; omega⟩, by repeat (first | exact Drawn0.refl _ | apply Drawn0.step)⟩
      · rw [if_neg c4] at H
        have c4b0 : decide (x7_1 < a1) = false := decide_eq_false c4
        clear c4
        obtain rfl := Option.some.inj H
        go_wp2
        go_ret
        exact ⟨by first | rfl | (simp; done) | (simp [*]; done), by repeat (first | exact Drawn0.refl _ | apply Drawn0.step)⟩

/-! ### ontimeref03_count: function 25 -/
def ontimeref03_count.f (a0 : Int) : Option (Int) := if (Int.tmod (wrap64 (a0)) 32) < 0 then (some (wrap64 ((Int.tmod (wrap64 (a0)) 32) + 32))) else (some (Int.tmod (wrap64 (a0)) 32))
set_option maxHeartbeats 8000000 in
set_option maxRecDepth 100000 in
theorem ontimeref03_count.calls (a0 : Int) (r : Int) (w : World) (h : ontimeref03_count.f a0 = some r) :
    Calls Try.prog 25 #[.int .i32 a0] w fun e w' => e = .returned (.int .i64 r) ∧ Drawn0 w w' := by
  have H : (if (Int.tmod (wrap64 (a0)) 32) < 0 then (some (wrap64 ((Int.tmod (wrap64 (a0)) 32) + 32))) else (some (Int.tmod (wrap64 (a0)) 32))) = some r := h
  clear h
  by_cases c2 : (Int.tmod (wrap64 (a0)) 32) < 0
  · rw [if_pos c2] at H
    have c2b0 : decide ((Int.tmod (wrap64 (a0)) 32) < 0) = true := decide_eq_true c2
    clear c2
    obtain rfl := Option.some.inj H
    go_enter Try.func25, Try.ntmps25
    go_wp2
    go_ret
    exact ⟨by first | rfl | (simp; done) | (simp [*]; done), by repeat (first | exact Drawn0.refl _ | apply Drawn0.step)⟩
  · rw [if_neg c2] at H
    have c2b0 : decide ((Int.tmod (wrap64 (a0)) 32) < 0) = false := decide_eq_false c2
    clear c2
    obtain rfl := Option.some.inj H
    go_enter Try.func25, Try.ntmps25
    go_wp2
    go_ret
    exact ⟨by first | rfl | (simp; done) | (simp [*]; done), by repeat (first | exact Drawn0.refl _ | apply Drawn0.step)⟩

/-! ### ontimeref03_truth: function 26 -/
def ontimeref03_truth.f (a0 : Bool) : Option (Int) := if a0 = true then (some 1) else (some 0)
set_option maxHeartbeats 8000000 in
set_option maxRecDepth 100000 in
theorem ontimeref03_truth.calls (a0 : Bool) (r : Int) (w : World) (h : ontimeref03_truth.f a0 = some r) :
    Calls Try.prog 26 #[.bool a0] w fun e w' => e = .returned (.int .i32 r) ∧ Drawn0 w w' := by
  have H : (if a0 = true then (some 1) else (some 0)) = some r := h
  clear h
  by_cases c2 : a0 = true
  · subst c2
    have H1 : (some 1) = some r := by rw [if_pos rfl] at H; exact H
    clear H
    have H := H1
    clear H1
    obtain rfl := Option.some.inj H
    go_enter Try.func26, Try.ntmps26
    go_wp2
    go_ret
    exact ⟨by first | rfl | (simp; done) | (simp [*]; done), by repeat (first | exact Drawn0.refl _ | apply Drawn0.step)⟩
  · replace c2 := Bool.eq_false_iff.mpr c2
    subst c2
    have H1 : (some 0) = some r := by rw [if_neg (show ¬ (false = true) by decide)] at H; exact H
    clear H
    have H := H1
    clear H1
    obtain rfl := Option.some.inj H
    go_enter Try.func26, Try.ntmps26
    go_wp2
    go_ret
    exact ⟨by first | rfl | (simp; done) | (simp [*]; done), by repeat (first | exact Drawn0.refl _ | apply Drawn0.step)⟩

end Go.Proofs.Ytjddfmbdollcnaa.PWordApply
