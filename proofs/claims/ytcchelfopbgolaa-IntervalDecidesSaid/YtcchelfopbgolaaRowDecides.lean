/- For every two intervals, the law IntervalDecides answers true: the answers of the comparisons fit each other. Conditions: none beyond the kinds of the arguments. -/
import Derived.Test.YtcchelfopbgolaaRows
import Derived.Test.YtcchelfopbgolaaWalkDecides
import Derived.WalkKit
import Derived.ProofKit
import Derived.OpenShut
import Derived.ShutString
import Derived.ChangeOld
import Derived.Below
import Derived.SizedLaws
import Derived.Lib.SmallJoins
namespace Go.Proofs.Ytcchelfopbgolaa.intervalDecides
open Go.ChangeShapes Go.WideShapes Go.ChangeAt Go.RowKit Go.Joins
set_option linter.unusedVariables false
theorem own : ownKnob Try.prog.godebug = none := by kernel_rfl
theorem cells23 : Try.prog.cellsOf 23 = 2 := by kernel_rfl
set_option maxRecDepth 100000 in
theorem lifted (os : Os) (started : os.Started) (H : Type) (enc : TypeId × Value → H) :
    ReturnsInHanded {} Try.checked os 8 .any (Rows.intervalDecidesSpec.pre6 enc Try.prog Try.f8 Rows.intervalDecidesRow.domain false) (Rows.intervalDecidesSpec.post enc Try.prog Try.f8 false true false false) := by
  refine returnsInHanded_of_change_sized (C := Try.checked) own started (by kernel_rfl) Try.func8
    (ChangeSpec.witness6 (enc := enc) (C := Try.checked) false ⟨#[], #[.agg #[.int .i32 0, .int .i32 0], .agg #[.int .i32 0, .int .i32 0]], []⟩ 8 (by kernel_rfl) (by kernel_rfl) (by kernel_rfl) (by kernel_rfl)) ?_
  intro W base args ds gs before hval0 hW hcnd hsz0 _
  have hval : ∀ (j : Nat) t v, Try.f8.params[j]? = some t → args[j]? = some v → Value.okWide Try.prog W .any base t v := hval0
  have hW' := hW
  obtain ⟨p, q, hA0, hV, rfl, hfz, hnd⟩ := hW
  have hA : DataW.TrodAll enc Try.prog W 0 (fun _ => true) true Try.f8.params.toList args.toList ds p := hA0
  rw [Try.params8] at hA hval
  obtain ⟨v0, vs0, d0, ds0, p0, q0, hargs, rfl, rfl, h0, r0⟩ := trodAll_cons hA
  obtain ⟨v1, vs1, d1, ds1, p1, q1, rfl, rfl, rfl, h1, r1⟩ := trodAll_cons r0
  obtain ⟨rfl, rfl, rfl⟩ := trodAll_nil r1
  obtain rfl : args = #[v0, v1] := by cases args; simp_all
  obtain ⟨rfl, rfl⟩ := trodVars_none hV
  obtain ⟨x0, y0, rx0, ry0, m0, rfl, rfl, rfl, hx0, hy0⟩ := open_agg2 Try.underlying23 (by kernel_rfl) cells23 (hval 0 23 v0 rfl rfl) h0
  obtain ⟨a0, ea0, rfl, wa0⟩ := DataW.trod_int Try.underlying21 hx0
  obtain ⟨b0, eb0, rfl, wb0⟩ := DataW.trod_int Try.underlying21 hy0
  simp only [List.cons.injEq, and_true] at ea0 eb0
  subst ea0 eb0
  have s0 : ∀ (W' : World) (sp : Nat → Bool), DataW.Trod enc Try.prog W' 0 sp true 23 (.agg #[.int .i32 a0, .int .i32 b0]) (.agg [.lit (.int .i32 a0), .lit (.int .i32 b0)]) ([] ++ []) := fun W' sp =>
    shut_agg2 (y0 := (.lit (.int .i32 a0), [])) (y1 := (.lit (.int .i32 b0), [])) Try.underlying23 (by kernel_rfl) cells23 ⟨1, by simp [DataW.trod, Try.underlying21, wa0]⟩ ⟨1, by simp [DataW.trod, Try.underlying21, wb0]⟩
  obtain ⟨x1, y1, rx1, ry1, m1, rfl, rfl, rfl, hx1, hy1⟩ := open_agg2 Try.underlying23 (by kernel_rfl) cells23 (hval 1 23 v1 rfl rfl) h1
  obtain ⟨a1, ea1, rfl, wa1⟩ := DataW.trod_int Try.underlying21 hx1
  obtain ⟨b1, eb1, rfl, wb1⟩ := DataW.trod_int Try.underlying21 hy1
  simp only [List.cons.injEq, and_true] at ea1 eb1
  subst ea1 eb1
  have s1 : ∀ (W' : World) (sp : Nat → Bool), DataW.Trod enc Try.prog W' 0 sp true 23 (.agg #[.int .i32 a1, .int .i32 b1]) (.agg [.lit (.int .i32 a1), .lit (.int .i32 b1)]) ([] ++ []) := fun W' sp =>
    shut_agg2 (y0 := (.lit (.int .i32 a1), [])) (y1 := (.lit (.int .i32 b1), [])) Try.underlying23 (by kernel_rfl) cells23 ⟨1, by simp [DataW.trod, Try.underlying21, wa1]⟩ ⟨1, by simp [DataW.trod, Try.underlying21, wb1]⟩
  clear hA0 hval0 hsz0
  refine (Decides.IntervalDecides_calls a0 b0 a1 b1 (Go.Proofs.YtcchelfopbgolaaPlain.wf_i32 wa0).1 (Go.Proofs.YtcchelfopbgolaaPlain.wf_i32 wa0).2 (Go.Proofs.YtcchelfopbgolaaPlain.wf_i32 wb0).1 (Go.Proofs.YtcchelfopbgolaaPlain.wf_i32 wb0).2 (Go.Proofs.YtcchelfopbgolaaPlain.wf_i32 wa1).1 (Go.Proofs.YtcchelfopbgolaaPlain.wf_i32 wa1).2 (Go.Proofs.YtcchelfopbgolaaPlain.wf_i32 wb1).1 (Go.Proofs.YtcchelfopbgolaaPlain.wf_i32 wb1).2 W).mono fun e W' ⟨he, bel⟩ => ?_
  subst he
  exact ⟨_, rfl, _, _, _, [], _, [], hW', trodAll_mk1 (shut_bool Try.underlying4 _), (trodAll_cons_mk (s0 _ _) (trodAll_cons_mk (s1 _ _) trodAll_mk0)), rfl, bel.frame _, fun h => by cases h⟩
theorem over : Rows.intervalDecidesRow.holds Try.pinned (OpenSpec.ofChange Rows.intervalDecidesSpec) :=
  OpenClaim.holds_of_wide 8 Try.f8 rfl rfl rfl rfl rfl rfl rfl ⟨rfl, rfl, rfl, rfl, rfl⟩ rfl rfl rfl rfl rfl (by kernel_rfl) Try.func8 (by kernel_rfl)
    (of_decide_eq_true (by kernel_rfl)) (by unfold Func.isWrapper; first | (rw [if_pos (by decide +kernel)]; kernel_rfl) | (rw [if_neg (by decide +kernel)]; exact ⟨rfl, rfl⟩))
    (fun os started H enc _ => lifted os started H enc)
theorem proved : Rows.IntervalDecidesSaid := over
end Go.Proofs.Ytcchelfopbgolaa.intervalDecides
namespace Go.Proofs.Ytcchelfopbgolaa
/-- The row, under a short name, for the claim. -/
theorem intervalDecides_holds : Rows.IntervalDecidesSaid := intervalDecides.proved
#print axioms intervalDecides_holds
end Go.Proofs.Ytcchelfopbgolaa
