/- For every number of an operator and every four intervals, the law IntervalMonotone answers true: larger operands have larger results. Conditions: none beyond the kinds of the arguments. -/
import Derived.Test.YtcchelfopbgolaaRows
import Derived.Test.YtcchelfopbgolaaWalkMonotone
import Derived.WalkKit
import Derived.ProofKit
import Derived.OpenShut
import Derived.ShutString
import Derived.ChangeOld
import Derived.Below
import Derived.SizedLaws
import Derived.Lib.SmallJoins
namespace Go.Proofs.Ytcchelfopbgolaa.intervalMonotone
open Go.ChangeShapes Go.WideShapes Go.ChangeAt Go.RowKit Go.Joins
set_option linter.unusedVariables false
theorem own : ownKnob Try.prog.godebug = none := by kernel_rfl
theorem cells23 : Try.prog.cellsOf 23 = 2 := by kernel_rfl
set_option maxRecDepth 100000 in
theorem lifted (os : Os) (started : os.Started) (H : Type) (enc : TypeId × Value → H) :
    ReturnsInHanded {} Try.checked os 9 .any (Rows.intervalMonotoneSpec.pre6 enc Try.prog Try.f9 Rows.intervalMonotoneRow.domain false) (Rows.intervalMonotoneSpec.post enc Try.prog Try.f9 false true false false) := by
  refine returnsInHanded_of_change_sized (C := Try.checked) own started (by kernel_rfl) Try.func9
    (ChangeSpec.witness6 (enc := enc) (C := Try.checked) false ⟨#[], #[.int .u8 0, .agg #[.int .i32 0, .int .i32 0], .agg #[.int .i32 0, .int .i32 0], .agg #[.int .i32 0, .int .i32 0], .agg #[.int .i32 0, .int .i32 0]], []⟩ 8 (by kernel_rfl) (by kernel_rfl) (by kernel_rfl) (by kernel_rfl)) ?_
  intro W base args ds gs before hval0 hW hcnd hsz0 _
  have hval : ∀ (j : Nat) t v, Try.f9.params[j]? = some t → args[j]? = some v → Value.okWide Try.prog W .any base t v := hval0
  have hW' := hW
  obtain ⟨p, q, hA0, hV, rfl, hfz, hnd⟩ := hW
  have hA : DataW.TrodAll enc Try.prog W 0 (fun _ => true) true Try.f9.params.toList args.toList ds p := hA0
  rw [Try.params9] at hA hval
  obtain ⟨v0, vs0, d0, ds0, p0, q0, hargs, rfl, rfl, h0, r0⟩ := trodAll_cons hA
  obtain ⟨v1, vs1, d1, ds1, p1, q1, rfl, rfl, rfl, h1, r1⟩ := trodAll_cons r0
  obtain ⟨v2, vs2, d2, ds2, p2, q2, rfl, rfl, rfl, h2, r2⟩ := trodAll_cons r1
  obtain ⟨v3, vs3, d3, ds3, p3, q3, rfl, rfl, rfl, h3, r3⟩ := trodAll_cons r2
  obtain ⟨v4, vs4, d4, ds4, p4, q4, rfl, rfl, rfl, h4, r4⟩ := trodAll_cons r3
  obtain ⟨rfl, rfl, rfl⟩ := trodAll_nil r4
  obtain rfl : args = #[v0, v1, v2, v3, v4] := by cases args; simp_all
  obtain ⟨rfl, rfl⟩ := trodVars_none hV
  obtain ⟨a0, rfl, rfl, rfl, w0⟩ := open_int Try.underlying5 (hval 0 5 v0 rfl rfl) h0
  obtain ⟨x1, y1, rx1, ry1, m1, rfl, rfl, rfl, hx1, hy1⟩ := open_agg2 Try.underlying23 (by kernel_rfl) cells23 (hval 1 23 v1 rfl rfl) h1
  obtain ⟨a1, ea1, rfl, wa1⟩ := DataW.trod_int Try.underlying21 hx1
  obtain ⟨b1, eb1, rfl, wb1⟩ := DataW.trod_int Try.underlying21 hy1
  simp only [List.cons.injEq, and_true] at ea1 eb1
  subst ea1 eb1
  have s1 : ∀ (W' : World) (sp : Nat → Bool), DataW.Trod enc Try.prog W' 0 sp true 23 (.agg #[.int .i32 a1, .int .i32 b1]) (.agg [.lit (.int .i32 a1), .lit (.int .i32 b1)]) ([] ++ []) := fun W' sp =>
    shut_agg2 (y0 := (.lit (.int .i32 a1), [])) (y1 := (.lit (.int .i32 b1), [])) Try.underlying23 (by kernel_rfl) cells23 ⟨1, by simp [DataW.trod, Try.underlying21, wa1]⟩ ⟨1, by simp [DataW.trod, Try.underlying21, wb1]⟩
  obtain ⟨x2, y2, rx2, ry2, m2, rfl, rfl, rfl, hx2, hy2⟩ := open_agg2 Try.underlying23 (by kernel_rfl) cells23 (hval 2 23 v2 rfl rfl) h2
  obtain ⟨a2, ea2, rfl, wa2⟩ := DataW.trod_int Try.underlying21 hx2
  obtain ⟨b2, eb2, rfl, wb2⟩ := DataW.trod_int Try.underlying21 hy2
  simp only [List.cons.injEq, and_true] at ea2 eb2
  subst ea2 eb2
  have s2 : ∀ (W' : World) (sp : Nat → Bool), DataW.Trod enc Try.prog W' 0 sp true 23 (.agg #[.int .i32 a2, .int .i32 b2]) (.agg [.lit (.int .i32 a2), .lit (.int .i32 b2)]) ([] ++ []) := fun W' sp =>
    shut_agg2 (y0 := (.lit (.int .i32 a2), [])) (y1 := (.lit (.int .i32 b2), [])) Try.underlying23 (by kernel_rfl) cells23 ⟨1, by simp [DataW.trod, Try.underlying21, wa2]⟩ ⟨1, by simp [DataW.trod, Try.underlying21, wb2]⟩
  obtain ⟨x3, y3, rx3, ry3, m3, rfl, rfl, rfl, hx3, hy3⟩ := open_agg2 Try.underlying23 (by kernel_rfl) cells23 (hval 3 23 v3 rfl rfl) h3
  obtain ⟨a3, ea3, rfl, wa3⟩ := DataW.trod_int Try.underlying21 hx3
  obtain ⟨b3, eb3, rfl, wb3⟩ := DataW.trod_int Try.underlying21 hy3
  simp only [List.cons.injEq, and_true] at ea3 eb3
  subst ea3 eb3
  have s3 : ∀ (W' : World) (sp : Nat → Bool), DataW.Trod enc Try.prog W' 0 sp true 23 (.agg #[.int .i32 a3, .int .i32 b3]) (.agg [.lit (.int .i32 a3), .lit (.int .i32 b3)]) ([] ++ []) := fun W' sp =>
    shut_agg2 (y0 := (.lit (.int .i32 a3), [])) (y1 := (.lit (.int .i32 b3), [])) Try.underlying23 (by kernel_rfl) cells23 ⟨1, by simp [DataW.trod, Try.underlying21, wa3]⟩ ⟨1, by simp [DataW.trod, Try.underlying21, wb3]⟩
  obtain ⟨x4, y4, rx4, ry4, m4, rfl, rfl, rfl, hx4, hy4⟩ := open_agg2 Try.underlying23 (by kernel_rfl) cells23 (hval 4 23 v4 rfl rfl) h4
  obtain ⟨a4, ea4, rfl, wa4⟩ := DataW.trod_int Try.underlying21 hx4
  obtain ⟨b4, eb4, rfl, wb4⟩ := DataW.trod_int Try.underlying21 hy4
  simp only [List.cons.injEq, and_true] at ea4 eb4
  subst ea4 eb4
  have s4 : ∀ (W' : World) (sp : Nat → Bool), DataW.Trod enc Try.prog W' 0 sp true 23 (.agg #[.int .i32 a4, .int .i32 b4]) (.agg [.lit (.int .i32 a4), .lit (.int .i32 b4)]) ([] ++ []) := fun W' sp =>
    shut_agg2 (y0 := (.lit (.int .i32 a4), [])) (y1 := (.lit (.int .i32 b4), [])) Try.underlying23 (by kernel_rfl) cells23 ⟨1, by simp [DataW.trod, Try.underlying21, wa4]⟩ ⟨1, by simp [DataW.trod, Try.underlying21, wb4]⟩
  clear hA0 hval0 hsz0
  refine (Monotone.IntervalMonotone_calls a0 a1 b1 a2 b2 a3 b3 a4 b4 (Go.Proofs.YtcchelfopbgolaaPlain.wf_i32 wa1) (Go.Proofs.YtcchelfopbgolaaPlain.wf_i32 wb1) (Go.Proofs.YtcchelfopbgolaaPlain.wf_i32 wa2) (Go.Proofs.YtcchelfopbgolaaPlain.wf_i32 wb2) (Go.Proofs.YtcchelfopbgolaaPlain.wf_i32 wa3) (Go.Proofs.YtcchelfopbgolaaPlain.wf_i32 wb3) (Go.Proofs.YtcchelfopbgolaaPlain.wf_i32 wa4) (Go.Proofs.YtcchelfopbgolaaPlain.wf_i32 wb4) W).mono fun e W' ⟨he, bel⟩ => ?_
  subst he
  exact ⟨_, rfl, _, _, _, [], _, [], hW', trodAll_mk1 (shut_bool Try.underlying4 _), (trodAll_cons_mk (shut_int Try.underlying5 w0) (trodAll_cons_mk (s1 _ _) (trodAll_cons_mk (s2 _ _) (trodAll_cons_mk (s3 _ _) (trodAll_cons_mk (s4 _ _) trodAll_mk0))))), rfl, bel.frame _, fun h => by cases h⟩
theorem over : Rows.intervalMonotoneRow.holds Try.pinned (OpenSpec.ofChange Rows.intervalMonotoneSpec) :=
  OpenClaim.holds_of_wide 9 Try.f9 rfl rfl rfl rfl rfl rfl rfl ⟨rfl, rfl, rfl, rfl, rfl⟩ rfl rfl rfl rfl rfl (by kernel_rfl) Try.func9 (by kernel_rfl)
    (of_decide_eq_true (by kernel_rfl)) (by unfold Func.isWrapper; first | (rw [if_pos (by decide +kernel)]; kernel_rfl) | (rw [if_neg (by decide +kernel)]; exact ⟨rfl, rfl⟩))
    (fun os started H enc _ => lifted os started H enc)
theorem proved : Rows.IntervalMonotoneSaid := over
end Go.Proofs.Ytcchelfopbgolaa.intervalMonotone
namespace Go.Proofs.Ytcchelfopbgolaa
/-- The row, under a short name, for the claim. -/
theorem intervalMonotone_holds : Rows.IntervalMonotoneSaid := intervalMonotone.proved
#print axioms intervalMonotone_holds
end Go.Proofs.Ytcchelfopbgolaa
