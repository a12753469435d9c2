/- As YtcchelfopbgolaaPairs, where each call has a constant ahead of the two. Conditions: as the lemma says. -/
import Derived.Test.YtcchelfopbgolaaPairs
namespace Go.Proofs.Ytcchelfopbgolaa.Blocks
open Go.RowKit Go.Proofs.YtcchelfopbgolaaW.PrintWords Go.Proofs.YtcchelfopbgolaaW.PrintLast Go.Proofs.YtcchelfopbgolaaW.PrintMore
set_option linter.unusedVariables false
section
variable {P : Program} {ops : Array Oper} {Q : Exit → Act → World → Prop} {S : World → Prop}

theorem pair_orders3 {a : Act} {W : World} {d2 d5 d6 d7 s1 s2 s3 s4 : Tmp} {v2 v5 x1 x2 x3 x4 k2 k5 : Value} {z : Array Value} {o2 o5 o6 o7 : Oper} {f g : FuncId} {fn gn : Func} {ts us : Array TypeId}
    (hk : readyTab ops = true)
    (e2 : ops[2]? = some o2) (e5 : ops[5]? = some o5) (e6 : ops[6]? = some o6) (e7 : ops[7]? = some o7)
    (p2 : o2.op = .call { callee := .value (.func f), args := #[.const k2, .tmp s1, .tmp s2], argTypes := ts }) (g2 : o2.guard = none) (n2 : o2.dst = some d2)
    (p5 : o5.op = .call { callee := .value (.func g), args := #[.const k5, .tmp s3, .tmp s4], argTypes := us }) (g5 : o5.guard = none) (n5 : o5.dst = some d5)
    (g6 : o6.guard = none) (n6 : o6.dst = some d6) (r6 : ∀ a w, (execOp (Act.eval a) o6).run P w = .ok (.value (.pointer (some ⟨w.heap.size, 0, none⟩))) (w.alloc (.cells z 23 (0, 0))))
    (g7 : o7.guard = none) (n7 : o7.dst = some d7) (r7 : ∀ a w, (execOp (Act.eval a) o7).run P w = .ok (.value (.pointer (some ⟨w.heap.size, 0, none⟩))) (w.alloc (.cells z 23 (0, 0))))
    (hf : P.funcs[f]? = some fn) (hfn : (fn.name == "runtime.NumGoroutine") = false) (hfb : fn.body.isSome = true) (c2 : ∀ w, Calls P f #[k2, x1, x2] w fun e w' => e = .returned v2 ∧ Below w.heap.size w w')
    (hg : P.funcs[g]? = some gn) (hgn : (gn.name == "runtime.NumGoroutine") = false) (hgb : gn.body.isSome = true) (c5 : ∀ w, Calls P g #[k5, x3, x4] w fun e w' => e = .returned v5 ∧ Below w.heap.size w w')
    (hd : (decide (d5 ≠ d2) && decide (d6 ≠ d2) && decide (d7 ≠ d2) && decide (d6 ≠ d5) && decide (d7 ≠ d5) && decide (d7 ≠ d6) && [d2, d5, d6, d7].all fun d => decide (d ≠ s1) && decide (d ≠ s2) && decide (d ≠ s3) && decide (d ≠ s4)) = true)
    (hS : ∀ w, Below W.heap.size W w → S w)
    (y1 : a.eval (.tmp s1) = x1) (y2 : a.eval (.tmp s2) = x2) (y3 : a.eval (.tmp s3) = x3) (y4 : a.eval (.tmp s4) = x4)
    (hfin : ∀ (h6 h7 : Nat) (w : World), Below W.heap.size W w → W.heap.size ≤ h6 → W.heap.size ≤ h7 → h6 ≠ h7 → w.heap[h6]? = some (.cells z 23 (0, 0)) → w.heap[h7]? = some (.cells z 23 (0, 0)) →
      wpAnyLast P .any ops Q S [8, 9] 2 (bl 10 255) ((((a.put (some d2) v2).put (some d5) v5).put (some d6) (.pointer (some ⟨h6, 0, none⟩))).put (some d7) (.pointer (some ⟨h7, 0, none⟩))) w) :
    wpAnyLast P .any ops Q S [8, 9] 6 (bl 10 27) a W := by
  simp only [List.all_cons, List.all_nil, Bool.and_true, Bool.and_eq_true, decide_eq_true_eq] at hd
  obtain ⟨⟨⟨⟨⟨⟨k52, k62⟩, k72⟩, k65⟩, k75⟩, k76⟩, ⟨⟨⟨i1, i2⟩, i3⟩, i4⟩, ⟨⟨⟨j1, j2⟩, j3⟩, j4⟩, ⟨⟨⟨l1, l2⟩, l3⟩, l4⟩, ⟨⟨⟨m1, m2⟩, m3⟩, m4⟩⟩ := hd
  simp only [readyTab, List.all_cons, List.all_nil, Bool.and_true, Bool.and_eq_true, beq_iff_eq] at hk
  obtain ⟨t27, t31, t91, t155, t63, t95, t159, t219, t127, t191, t223⟩ := hk
  have A2 : ∀ u v p q, #[Operand.const k2, Operand.tmp s1, Operand.tmp s2].map (filled a d2 d5 d6 d7 u v p q).eval = #[k2, x1, x2] := fun u v p q => by
    simp only [List.map_toArray, List.map_cons, List.map_nil]; rw [filled_eval i1 j1 l1 m1, filled_eval i2 j2 l2 m2, y1, y2]; rfl
  have A5 : ∀ u v p q, #[Operand.const k5, Operand.tmp s3, Operand.tmp s4].map (filled a d2 d5 d6 d7 u v p q).eval = #[k5, x3, x4] := fun u v p q => by
    simp only [List.map_toArray, List.map_cons, List.map_nil]; rw [filled_eval i3 j3 l3 m3, filled_eval i4 j4 l4 m4, y3, y4]; rfl
  have S1111 : ∀ (h6 : Nat) (h7 : Nat) (w : World), Two W w z (some h6) (some h7) → wpAnyLast P .any ops Q S [8, 9] 2 (bl 10 255) (filled a d2 d5 d6 d7 (some v2) (some v5) (some (ptr h6)) (some (ptr h7))) w := by
    intro h6 h7 w T
    exact hfin h6 h7 w T.below (T.six h6 rfl).1 (T.seven h7 rfl).1 (T.apart h6 h7 rfl rfl) (T.six h6 rfl).2 (T.seven h7 rfl).2
  have S1110 : ∀ (h6 : Nat) (w : World), Two W w z (some h6) none → wpAnyLast P .any ops Q S [8, 9] 3 (bl 10 127) (filled a d2 d5 d6 d7 (some v2) (some v5) (some (ptr h6)) none) w := by
    intro h6 w T
    exact wpAnyLast_ready t127 (by simp) (AllReadyL.cons e7 (by decide) (fun K hK => alloc_step g7 n7 r7 _ w K (hK.out _ _ (hS _ T.lay7.below) (fun _ => by rw [filled7]; exact S1111 h6 w.heap.size _ T.lay7))) AllReadyL.nil)
  have S1101 : ∀ (h7 : Nat) (w : World), Two W w z none (some h7) → wpAnyLast P .any ops Q S [8, 9] 3 (bl 10 191) (filled a d2 d5 d6 d7 (some v2) (some v5) none (some (ptr h7))) w := by
    intro h7 w T
    exact wpAnyLast_ready t191 (by simp) (AllReadyL.cons e6 (by decide) (fun K hK => alloc_step g6 n6 r6 _ w K (hK.out _ _ (hS _ T.lay6.below) (fun _ => by rw [filled6 k76]; exact S1111 w.heap.size h7 _ T.lay6))) AllReadyL.nil)
  have S1011 : ∀ (h6 : Nat) (h7 : Nat) (w : World), Two W w z (some h6) (some h7) → wpAnyLast P .any ops Q S [8, 9] 3 (bl 10 223) (filled a d2 d5 d6 d7 (some v2) none (some (ptr h6)) (some (ptr h7))) w := by
    intro h6 h7 w T
    exact wpAnyLast_ready t223 (by simp) (AllReadyL.cons e5 (by decide) (fun K hK => call_step p5 g5 n5 hg hgn hgb c5 _ w K (A5 _ _ _ _) (fun w' hb => hK.out _ _ (hS _ (T.call hb).below) (fun _ => by rw [filled5 k65 k75]; exact S1111 h6 h7 w' (T.call hb)))) AllReadyL.nil)
  have S1100 : ∀ (w : World), Two W w z none none → wpAnyLast P .any ops Q S [8, 9] 4 (bl 10 63) (filled a d2 d5 d6 d7 (some v2) (some v5) none none) w := by
    intro w T
    exact wpAnyLast_ready t63 (by simp) (AllReadyL.cons e6 (by decide) (fun K hK => alloc_step g6 n6 r6 _ w K (hK.out _ _ (hS _ T.lay6.below) (fun _ => by rw [filled6 k76]; exact S1110 w.heap.size _ T.lay6))) (AllReadyL.cons e7 (by decide) (fun K hK => alloc_step g7 n7 r7 _ w K (hK.out _ _ (hS _ T.lay7.below) (fun _ => by rw [filled7]; exact S1101 w.heap.size _ T.lay7))) AllReadyL.nil))
  have S1010 : ∀ (h6 : Nat) (w : World), Two W w z (some h6) none → wpAnyLast P .any ops Q S [8, 9] 4 (bl 10 95) (filled a d2 d5 d6 d7 (some v2) none (some (ptr h6)) none) w := by
    intro h6 w T
    exact wpAnyLast_ready t95 (by simp) (AllReadyL.cons e5 (by decide) (fun K hK => call_step p5 g5 n5 hg hgn hgb c5 _ w K (A5 _ _ _ _) (fun w' hb => hK.out _ _ (hS _ (T.call hb).below) (fun _ => by rw [filled5 k65 k75]; exact S1110 h6 w' (T.call hb)))) (AllReadyL.cons e7 (by decide) (fun K hK => alloc_step g7 n7 r7 _ w K (hK.out _ _ (hS _ T.lay7.below) (fun _ => by rw [filled7]; exact S1011 h6 w.heap.size _ T.lay7))) AllReadyL.nil))
  have S1001 : ∀ (h7 : Nat) (w : World), Two W w z none (some h7) → wpAnyLast P .any ops Q S [8, 9] 4 (bl 10 159) (filled a d2 d5 d6 d7 (some v2) none none (some (ptr h7))) w := by
    intro h7 w T
    exact wpAnyLast_ready t159 (by simp) (AllReadyL.cons e5 (by decide) (fun K hK => call_step p5 g5 n5 hg hgn hgb c5 _ w K (A5 _ _ _ _) (fun w' hb => hK.out _ _ (hS _ (T.call hb).below) (fun _ => by rw [filled5 k65 k75]; exact S1101 h7 w' (T.call hb)))) (AllReadyL.cons e6 (by decide) (fun K hK => alloc_step g6 n6 r6 _ w K (hK.out _ _ (hS _ T.lay6.below) (fun _ => by rw [filled6 k76]; exact S1011 w.heap.size h7 _ T.lay6))) AllReadyL.nil))
  have S0011 : ∀ (h6 : Nat) (h7 : Nat) (w : World), Two W w z (some h6) (some h7) → wpAnyLast P .any ops Q S [8, 9] 4 (bl 10 219) (filled a d2 d5 d6 d7 none none (some (ptr h6)) (some (ptr h7))) w := by
    intro h6 h7 w T
    exact wpAnyLast_ready t219 (by simp) (AllReadyL.cons e2 (by decide) (fun K hK => call_step p2 g2 n2 hf hfn hfb c2 _ w K (A2 _ _ _ _) (fun w' hb => hK.out _ _ (hS _ (T.call hb).below) (fun _ => by rw [filled2 k52 k62 k72]; exact S1011 h6 h7 w' (T.call hb)))) AllReadyL.nil)
  have S1000 : ∀ (w : World), Two W w z none none → wpAnyLast P .any ops Q S [8, 9] 5 (bl 10 31) (filled a d2 d5 d6 d7 (some v2) none none none) w := by
    intro w T
    exact wpAnyLast_ready t31 (by simp) (AllReadyL.cons e5 (by decide) (fun K hK => call_step p5 g5 n5 hg hgn hgb c5 _ w K (A5 _ _ _ _) (fun w' hb => hK.out _ _ (hS _ (T.call hb).below) (fun _ => by rw [filled5 k65 k75]; exact S1100  w' (T.call hb)))) (AllReadyL.cons e6 (by decide) (fun K hK => alloc_step g6 n6 r6 _ w K (hK.out _ _ (hS _ T.lay6.below) (fun _ => by rw [filled6 k76]; exact S1010 w.heap.size _ T.lay6))) (AllReadyL.cons e7 (by decide) (fun K hK => alloc_step g7 n7 r7 _ w K (hK.out _ _ (hS _ T.lay7.below) (fun _ => by rw [filled7]; exact S1001 w.heap.size _ T.lay7))) AllReadyL.nil)))
  have S0010 : ∀ (h6 : Nat) (w : World), Two W w z (some h6) none → wpAnyLast P .any ops Q S [8, 9] 5 (bl 10 91) (filled a d2 d5 d6 d7 none none (some (ptr h6)) none) w := by
    intro h6 w T
    exact wpAnyLast_ready t91 (by simp) (AllReadyL.cons e2 (by decide) (fun K hK => call_step p2 g2 n2 hf hfn hfb c2 _ w K (A2 _ _ _ _) (fun w' hb => hK.out _ _ (hS _ (T.call hb).below) (fun _ => by rw [filled2 k52 k62 k72]; exact S1010 h6 w' (T.call hb)))) (AllReadyL.cons e7 (by decide) (fun K hK => alloc_step g7 n7 r7 _ w K (hK.out _ _ (hS _ T.lay7.below) (fun _ => by rw [filled7]; exact S0011 h6 w.heap.size _ T.lay7))) AllReadyL.nil))
  have S0001 : ∀ (h7 : Nat) (w : World), Two W w z none (some h7) → wpAnyLast P .any ops Q S [8, 9] 5 (bl 10 155) (filled a d2 d5 d6 d7 none none none (some (ptr h7))) w := by
    intro h7 w T
    exact wpAnyLast_ready t155 (by simp) (AllReadyL.cons e2 (by decide) (fun K hK => call_step p2 g2 n2 hf hfn hfb c2 _ w K (A2 _ _ _ _) (fun w' hb => hK.out _ _ (hS _ (T.call hb).below) (fun _ => by rw [filled2 k52 k62 k72]; exact S1001 h7 w' (T.call hb)))) (AllReadyL.cons e6 (by decide) (fun K hK => alloc_step g6 n6 r6 _ w K (hK.out _ _ (hS _ T.lay6.below) (fun _ => by rw [filled6 k76]; exact S0011 w.heap.size h7 _ T.lay6))) AllReadyL.nil))
  have S0000 : ∀ (w : World), Two W w z none none → wpAnyLast P .any ops Q S [8, 9] 6 (bl 10 27) (filled a d2 d5 d6 d7 none none none none) w := by
    intro w T
    exact wpAnyLast_ready t27 (by simp) (AllReadyL.cons e2 (by decide) (fun K hK => call_step p2 g2 n2 hf hfn hfb c2 _ w K (A2 _ _ _ _) (fun w' hb => hK.out _ _ (hS _ (T.call hb).below) (fun _ => by rw [filled2 k52 k62 k72]; exact S1000  w' (T.call hb)))) (AllReadyL.cons e6 (by decide) (fun K hK => alloc_step g6 n6 r6 _ w K (hK.out _ _ (hS _ T.lay6.below) (fun _ => by rw [filled6 k76]; exact S0010 w.heap.size _ T.lay6))) (AllReadyL.cons e7 (by decide) (fun K hK => alloc_step g7 n7 r7 _ w K (hK.out _ _ (hS _ T.lay7.below) (fun _ => by rw [filled7]; exact S0001 w.heap.size _ T.lay7))) AllReadyL.nil)))
  exact S0000 W ⟨Below.refl _ _, fun g h => (by cases h), fun g h => (by cases h), fun g h e => (by cases e)⟩
end

end Go.Proofs.Ytcchelfopbgolaa.Blocks
