/- A region that calls two functions and lays two blocks for the answers, in whatever order: walked once for all. Conditions: as each lemma says. -/
import Derived.Test.YtcchelfopbgolaaBits
namespace Go.Proofs.Ytcchelfopbgolaa.Blocks
open Go.RowKit Go.Proofs.YtcchelfopbgolaaW.PrintWords Go.Proofs.YtcchelfopbgolaaW.PrintLast Go.Proofs.YtcchelfopbgolaaW.PrintMore
set_option linter.unusedVariables false

section
variable {P : Program} {ops : Array Oper} {Q : Exit → Act → World → Prop} {S : World → Prop}

theorem wanted_free {o : Oper} {y : Nat → Option Bool} (hg : o.guard = none) : Region.wanted o y = true := by unfold Region.wanted; rw [hg]

/-- A step: one operation, run. -/
def Step (P : Program) (ops : Array Oper) (Q : Exit → Act → World → Prop) (o : Oper) (a : Act) (w : World) (K : Act → World → Prop) : Prop :=
  if Region.wanted o (yielded ops a.tmps) = true then Oper.wp P o a w K Q else K (a.put o.dst undef) w

theorem call_step {o : Oper} {f : FuncId} {fn : Func} {al : Array Operand} {ts : Array TypeId} {N : Tmp} {args : Array Value} {v : Value} (ho : o.op = .call { callee := .value (.func f), args := al, argTypes := ts }) (hg : o.guard = none) (hN : o.dst = some N)
    (hf : P.funcs[f]? = some fn) (hname : (fn.name == "runtime.NumGoroutine") = false) (hb : fn.body.isSome = true) (hc : ∀ w, Calls P f args w fun e w' => e = .returned v ∧ Below w.heap.size w w')
    (a : Act) (w : World) (K : Act → World → Prop) (hargs : al.map a.eval = args) (hK : ∀ w', Below w.heap.size w w' → K (a.put (some N) v) w') : Step P ops Q o a w K := by
  unfold Step
  have h := goes_ (Q := Q) (ops := ops) hf hname hb args (wanted_free (y := yielded ops a.tmps) hg) hN ho hargs (K := K) (w := w) ((hc w).mono fun e w' ⟨he, hb⟩ => ⟨v, he, hK w' hb⟩)
  rw [hN]
  exact h

theorem alloc_step {o : Oper} {N : Tmp} {z : Obj} (hg : o.guard = none) (hN : o.dst = some N) (hrun : ∀ a w, (execOp (Act.eval a) o).run P w = .ok (.value (.pointer (some ⟨w.heap.size, 0, none⟩))) (w.alloc z))
    (a : Act) (w : World) (K : Act → World → Prop) (hK : K (a.put (some N) (.pointer (some ⟨w.heap.size, 0, none⟩))) (w.alloc z)) : Step P ops Q o a w K := by
  unfold Step
  rw [if_pos (wanted_free hg)]
  unfold Oper.wp
  rw [hrun, Oper.upon_value, hN]
  exact hK

/-- What is known of the blocks laid so far. -/
structure Two (W w : World) (z : Array Value) (o6 o7 : Option Nat) : Prop where
  below : Below W.heap.size W w
  six : ∀ g, o6 = some g → W.heap.size ≤ g ∧ w.heap[g]? = some (.cells z 23 (0, 0))
  seven : ∀ g, o7 = some g → W.heap.size ≤ g ∧ w.heap[g]? = some (.cells z 23 (0, 0))
  apart : ∀ g h, o6 = some g → o7 = some h → g ≠ h
theorem Two.call {W w w' : World} {z : Array Value} {o6 o7 : Option Nat} (T : Two W w z o6 o7) (hb : Below w.heap.size w w') : Two W w' z o6 o7 :=
  ⟨below_step T.below hb, fun g h => ⟨(T.six g h).1, blk_below (T.six g h).2 hb⟩, fun g h => ⟨(T.seven g h).1, blk_below (T.seven g h).2 hb⟩, T.apart⟩
theorem Two.lay6 {W w : World} {z : Array Value} {o7 : Option Nat} (T : Two W w z none o7) : Two W (w.alloc (.cells z 23 (0, 0))) z (some w.heap.size) o7 :=
  ⟨below_alloc T.below _, fun g h => (by cases h; exact ⟨T.below.size, blk_new w _⟩), fun g h => ⟨(T.seven g h).1, blk_alloc (T.seven g h).2 _⟩, fun g h e1 e2 => by
    cases e1; have := blk_lt (T.seven h e2).2; omega⟩
theorem Two.lay7 {W w : World} {z : Array Value} {o6 : Option Nat} (T : Two W w z o6 none) : Two W (w.alloc (.cells z 23 (0, 0))) z o6 (some w.heap.size) :=
  ⟨below_alloc T.below _, fun g h => ⟨(T.six g h).1, blk_alloc (T.six g h).2 _⟩, fun g h => (by cases h; exact ⟨T.below.size, blk_new w _⟩), fun g h e1 e2 => by
    cases e2; have := blk_lt (T.six g e1).2; omega⟩

def ptr (g : Nat) : Value := .pointer (some ⟨g, 0, none⟩)
def putO (a : Act) (d : Tmp) : Option Value → Act
  | none => a
  | some v => a.put (some d) v
/-- The act with what has been filled so far. -/
def filled (a : Act) (d2 d5 d6 d7 : Tmp) (o2 o5 o6 o7 : Option Value) : Act := putO (putO (putO (putO a d2 o2) d5 o5) d6 o6) d7 o7
theorem putO_comm {a : Act} {x y : Tmp} {o : Option Value} {v : Value} (h : x ≠ y) : (putO a x o).put (some y) v = putO (a.put (some y) v) x o := by
  cases o with
  | none => rfl
  | some u => exact Act.put_comm a u v (fun d e hh => h ((Option.some.inj e).trans (Option.some.inj hh).symm))
theorem filled2 {a : Act} {d2 d5 d6 d7 : Tmp} {o5 o6 o7 : Option Value} {v : Value} (h5 : d5 ≠ d2) (h6 : d6 ≠ d2) (h7 : d7 ≠ d2) : (filled a d2 d5 d6 d7 none o5 o6 o7).put (some d2) v = filled a d2 d5 d6 d7 (some v) o5 o6 o7 := by
  unfold filled
  rw [putO_comm h7, putO_comm h6, putO_comm h5]; rfl
theorem filled5 {a : Act} {d2 d5 d6 d7 : Tmp} {o2 o6 o7 : Option Value} {v : Value} (h6 : d6 ≠ d5) (h7 : d7 ≠ d5) : (filled a d2 d5 d6 d7 o2 none o6 o7).put (some d5) v = filled a d2 d5 d6 d7 o2 (some v) o6 o7 := by
  unfold filled
  rw [putO_comm h7, putO_comm h6]; rfl
theorem filled6 {a : Act} {d2 d5 d6 d7 : Tmp} {o2 o5 o7 : Option Value} {v : Value} (h7 : d7 ≠ d6) : (filled a d2 d5 d6 d7 o2 o5 none o7).put (some d6) v = filled a d2 d5 d6 d7 o2 o5 (some v) o7 := by
  unfold filled
  rw [putO_comm h7]; rfl
theorem filled7 {a : Act} {d2 d5 d6 d7 : Tmp} {o2 o5 o6 : Option Value} {v : Value} : (filled a d2 d5 d6 d7 o2 o5 o6 none).put (some d7) v = filled a d2 d5 d6 d7 o2 o5 o6 (some v) := rfl

theorem putO_eval {a : Act} {d t : Tmp} {o : Option Value} (h : d ≠ t) : (putO a d o).eval (.tmp t) = a.eval (.tmp t) := by
  cases o with
  | none => rfl
  | some v => simp [putO, Act.put, Act.eval, h]
theorem filled_eval {a : Act} {d2 d5 d6 d7 t : Tmp} {o2 o5 o6 o7 : Option Value} (h2 : d2 ≠ t) (h5 : d5 ≠ t) (h6 : d6 ≠ t) (h7 : d7 ≠ t) : (filled a d2 d5 d6 d7 o2 o5 o6 o7).eval (.tmp t) = a.eval (.tmp t) := by
  unfold filled
  rw [putO_eval h7, putO_eval h6, putO_eval h5, putO_eval h2]

/-- Which operations may come up, at each of the states. -/
def readyTab (ops : Array Oper) : Bool :=
  [(27, [2, 6, 7]), (31, [5, 6, 7]), (91, [2, 7]), (155, [2, 6]), (63, [6, 7]), (95, [5, 7]), (159, [5, 6]), (219, [2]), (127, [7]), (191, [6]), (223, [5])].all fun x => Region.ready .any ops (bl 10 x.1) == x.2

theorem pair_orders {a : Act} {W : World} {d2 d5 d6 d7 s1 s2 s3 s4 : Tmp} {v2 v5 x1 x2 x3 x4 : Value} {z : Array Value} {o2 o5 o6 o7 : Oper} {f g : FuncId} {fn gn : Func} {ts us : Array TypeId}
    (hk : readyTab ops = true)
    (e2 : ops[2]? = some o2) (e5 : ops[5]? = some o5) (e6 : ops[6]? = some o6) (e7 : ops[7]? = some o7)
    (p2 : o2.op = .call { callee := .value (.func f), args := #[.tmp s1, .tmp s2], argTypes := ts }) (g2 : o2.guard = none) (n2 : o2.dst = some d2)
    (p5 : o5.op = .call { callee := .value (.func g), args := #[.tmp s3, .tmp s4], argTypes := us }) (g5 : o5.guard = none) (n5 : o5.dst = some d5)
    (g6 : o6.guard = none) (n6 : o6.dst = some d6) (r6 : ∀ a w, (execOp (Act.eval a) o6).run P w = .ok (.value (.pointer (some ⟨w.heap.size, 0, none⟩))) (w.alloc (.cells z 23 (0, 0))))
    (g7 : o7.guard = none) (n7 : o7.dst = some d7) (r7 : ∀ a w, (execOp (Act.eval a) o7).run P w = .ok (.value (.pointer (some ⟨w.heap.size, 0, none⟩))) (w.alloc (.cells z 23 (0, 0))))
    (hf : P.funcs[f]? = some fn) (hfn : (fn.name == "runtime.NumGoroutine") = false) (hfb : fn.body.isSome = true) (c2 : ∀ w, Calls P f #[x1, x2] w fun e w' => e = .returned v2 ∧ Below w.heap.size w w')
    (hg : P.funcs[g]? = some gn) (hgn : (gn.name == "runtime.NumGoroutine") = false) (hgb : gn.body.isSome = true) (c5 : ∀ w, Calls P g #[x3, x4] w fun e w' => e = .returned v5 ∧ Below w.heap.size w w')
    (hd : (decide (d5 ≠ d2) && decide (d6 ≠ d2) && decide (d7 ≠ d2) && decide (d6 ≠ d5) && decide (d7 ≠ d5) && decide (d7 ≠ d6) && [d2, d5, d6, d7].all fun d => decide (d ≠ s1) && decide (d ≠ s2) && decide (d ≠ s3) && decide (d ≠ s4)) = true)
    (hS : ∀ w, Below W.heap.size W w → S w)
    (y1 : a.eval (.tmp s1) = x1) (y2 : a.eval (.tmp s2) = x2) (y3 : a.eval (.tmp s3) = x3) (y4 : a.eval (.tmp s4) = x4)
    (hfin : ∀ (h6 h7 : Nat) (w : World), Below W.heap.size W w → W.heap.size ≤ h6 → W.heap.size ≤ h7 → h6 ≠ h7 → w.heap[h6]? = some (.cells z 23 (0, 0)) → w.heap[h7]? = some (.cells z 23 (0, 0)) →
      wpAnyLast P .any ops Q S [8, 9] 2 (bl 10 255) ((((a.put (some d2) v2).put (some d5) v5).put (some d6) (.pointer (some ⟨h6, 0, none⟩))).put (some d7) (.pointer (some ⟨h7, 0, none⟩))) w) :
    wpAnyLast P .any ops Q S [8, 9] 6 (bl 10 27) a W := by
  simp only [List.all_cons, List.all_nil, Bool.and_true, Bool.and_eq_true, decide_eq_true_eq] at hd
  obtain ⟨⟨⟨⟨⟨⟨k52, k62⟩, k72⟩, k65⟩, k75⟩, k76⟩, ⟨⟨⟨i1, i2⟩, i3⟩, i4⟩, ⟨⟨⟨j1, j2⟩, j3⟩, j4⟩, ⟨⟨⟨l1, l2⟩, l3⟩, l4⟩, ⟨⟨⟨m1, m2⟩, m3⟩, m4⟩⟩ := hd
  simp only [readyTab, List.all_cons, List.all_nil, Bool.and_true, Bool.and_eq_true, beq_iff_eq] at hk
  obtain ⟨t27, t31, t91, t155, t63, t95, t159, t219, t127, t191, t223⟩ := hk
  have A2 : ∀ u v p q, #[Operand.tmp s1, Operand.tmp s2].map (filled a d2 d5 d6 d7 u v p q).eval = #[x1, x2] := fun u v p q => by
    simp only [List.map_toArray, List.map_cons, List.map_nil]; rw [filled_eval i1 j1 l1 m1, filled_eval i2 j2 l2 m2, y1, y2]
  have A5 : ∀ u v p q, #[Operand.tmp s3, Operand.tmp s4].map (filled a d2 d5 d6 d7 u v p q).eval = #[x3, x4] := fun u v p q => by
    simp only [List.map_toArray, List.map_cons, List.map_nil]; rw [filled_eval i3 j3 l3 m3, filled_eval i4 j4 l4 m4, y3, y4]
  have S1111 : ∀ (h6 : Nat) (h7 : Nat) (w : World), Two W w z (some h6) (some h7) → wpAnyLast P .any ops Q S [8, 9] 2 (bl 10 255) (filled a d2 d5 d6 d7 (some v2) (some v5) (some (ptr h6)) (some (ptr h7))) w := by
    intro h6 h7 w T
    exact hfin h6 h7 w T.below (T.six h6 rfl).1 (T.seven h7 rfl).1 (T.apart h6 h7 rfl rfl) (T.six h6 rfl).2 (T.seven h7 rfl).2
  have S1110 : ∀ (h6 : Nat) (w : World), Two W w z (some h6) none → wpAnyLast P .any ops Q S [8, 9] 3 (bl 10 127) (filled a d2 d5 d6 d7 (some v2) (some v5) (some (ptr h6)) none) w := by
    intro h6 w T
    exact wpAnyLast_ready t127 (by simp) (AllReadyL.cons e7 (by decide) (fun K hK => alloc_step g7 n7 r7 _ w K (hK.out _ _ (hS _ T.lay7.below) (fun _ => by rw [filled7]; exact S1111 h6 w.heap.size _ T.lay7))) AllReadyL.nil)
  have S1101 : ∀ (h7 : Nat) (w : World), Two W w z none (some h7) → wpAnyLast P .any ops Q S [8, 9] 3 (bl 10 191) (filled a d2 d5 d6 d7 (some v2) (some v5) none (some (ptr h7))) w := by
    intro h7 w T
    exact wpAnyLast_ready t191 (by simp) (AllReadyL.cons e6 (by decide) (fun K hK => alloc_step g6 n6 r6 _ w K (hK.out _ _ (hS _ T.lay6.below) (fun _ => by rw [filled6 k76]; exact S1111 w.heap.size h7 _ T.lay6))) AllReadyL.nil)
  have S1011 : ∀ (h6 : Nat) (h7 : Nat) (w : World), Two W w z (some h6) (some h7) → wpAnyLast P .any ops Q S [8, 9] 3 (bl 10 223) (filled a d2 d5 d6 d7 (some v2) none (some (ptr h6)) (some (ptr h7))) w := by
    intro h6 h7 w T
    exact wpAnyLast_ready t223 (by simp) (AllReadyL.cons e5 (by decide) (fun K hK => call_step p5 g5 n5 hg hgn hgb c5 _ w K (A5 _ _ _ _) (fun w' hb => hK.out _ _ (hS _ (T.call hb).below) (fun _ => by rw [filled5 k65 k75]; exact S1111 h6 h7 w' (T.call hb)))) AllReadyL.nil)
  have S1100 : ∀ (w : World), Two W w z none none → wpAnyLast P .any ops Q S [8, 9] 4 (bl 10 63) (filled a d2 d5 d6 d7 (some v2) (some v5) none none) w := by
    intro w T
    exact wpAnyLast_ready t63 (by simp) (AllReadyL.cons e6 (by decide) (fun K hK => alloc_step g6 n6 r6 _ w K (hK.out _ _ (hS _ T.lay6.below) (fun _ => by rw [filled6 k76]; exact S1110 w.heap.size _ T.lay6))) (AllReadyL.cons e7 (by decide) (fun K hK => alloc_step g7 n7 r7 _ w K (hK.out _ _ (hS _ T.lay7.below) (fun _ => by rw [filled7]; exact S1101 w.heap.size _ T.lay7))) AllReadyL.nil))
  have S1010 : ∀ (h6 : Nat) (w : World), Two W w z (some h6) none → wpAnyLast P .any ops Q S [8, 9] 4 (bl 10 95) (filled a d2 d5 d6 d7 (some v2) none (some (ptr h6)) none) w := by
    intro h6 w T
    exact wpAnyLast_ready t95 (by simp) (AllReadyL.cons e5 (by decide) (fun K hK => call_step p5 g5 n5 hg hgn hgb c5 _ w K (A5 _ _ _ _) (fun w' hb => hK.out _ _ (hS _ (T.call hb).below) (fun _ => by rw [filled5 k65 k75]; exact S1110 h6 w' (T.call hb)))) (AllReadyL.cons e7 (by decide) (fun K hK => alloc_step g7 n7 r7 _ w K (hK.out _ _ (hS _ T.lay7.below) (fun _ => by rw [filled7]; exact S1011 h6 w.heap.size _ T.lay7))) AllReadyL.nil))
  have S1001 : ∀ (h7 : Nat) (w : World), Two W w z none (some h7) → wpAnyLast P .any ops Q S [8, 9] 4 (bl 10 159) (filled a d2 d5 d6 d7 (some v2) none none (some (ptr h7))) w := by
    intro h7 w T
    exact wpAnyLast_ready t159 (by simp) (AllReadyL.cons e5 (by decide) (fun K hK => call_step p5 g5 n5 hg hgn hgb c5 _ w K (A5 _ _ _ _) (fun w' hb => hK.out _ _ (hS _ (T.call hb).below) (fun _ => by rw [filled5 k65 k75]; exact S1101 h7 w' (T.call hb)))) (AllReadyL.cons e6 (by decide) (fun K hK => alloc_step g6 n6 r6 _ w K (hK.out _ _ (hS _ T.lay6.below) (fun _ => by rw [filled6 k76]; exact S1011 w.heap.size h7 _ T.lay6))) AllReadyL.nil))
  have S0011 : ∀ (h6 : Nat) (h7 : Nat) (w : World), Two W w z (some h6) (some h7) → wpAnyLast P .any ops Q S [8, 9] 4 (bl 10 219) (filled a d2 d5 d6 d7 none none (some (ptr h6)) (some (ptr h7))) w := by
    intro h6 h7 w T
    exact wpAnyLast_ready t219 (by simp) (AllReadyL.cons e2 (by decide) (fun K hK => call_step p2 g2 n2 hf hfn hfb c2 _ w K (A2 _ _ _ _) (fun w' hb => hK.out _ _ (hS _ (T.call hb).below) (fun _ => by rw [filled2 k52 k62 k72]; exact S1011 h6 h7 w' (T.call hb)))) AllReadyL.nil)
  have S1000 : ∀ (w : World), Two W w z none none → wpAnyLast P .any ops Q S [8, 9] 5 (bl 10 31) (filled a d2 d5 d6 d7 (some v2) none none none) w := by
    intro w T
    exact wpAnyLast_ready t31 (by simp) (AllReadyL.cons e5 (by decide) (fun K hK => call_step p5 g5 n5 hg hgn hgb c5 _ w K (A5 _ _ _ _) (fun w' hb => hK.out _ _ (hS _ (T.call hb).below) (fun _ => by rw [filled5 k65 k75]; exact S1100  w' (T.call hb)))) (AllReadyL.cons e6 (by decide) (fun K hK => alloc_step g6 n6 r6 _ w K (hK.out _ _ (hS _ T.lay6.below) (fun _ => by rw [filled6 k76]; exact S1010 w.heap.size _ T.lay6))) (AllReadyL.cons e7 (by decide) (fun K hK => alloc_step g7 n7 r7 _ w K (hK.out _ _ (hS _ T.lay7.below) (fun _ => by rw [filled7]; exact S1001 w.heap.size _ T.lay7))) AllReadyL.nil)))
  have S0010 : ∀ (h6 : Nat) (w : World), Two W w z (some h6) none → wpAnyLast P .any ops Q S [8, 9] 5 (bl 10 91) (filled a d2 d5 d6 d7 none none (some (ptr h6)) none) w := by
    intro h6 w T
    exact wpAnyLast_ready t91 (by simp) (AllReadyL.cons e2 (by decide) (fun K hK => call_step p2 g2 n2 hf hfn hfb c2 _ w K (A2 _ _ _ _) (fun w' hb => hK.out _ _ (hS _ (T.call hb).below) (fun _ => by rw [filled2 k52 k62 k72]; exact S1010 h6 w' (T.call hb)))) (AllReadyL.cons e7 (by decide) (fun K hK => alloc_step g7 n7 r7 _ w K (hK.out _ _ (hS _ T.lay7.below) (fun _ => by rw [filled7]; exact S0011 h6 w.heap.size _ T.lay7))) AllReadyL.nil))
  have S0001 : ∀ (h7 : Nat) (w : World), Two W w z none (some h7) → wpAnyLast P .any ops Q S [8, 9] 5 (bl 10 155) (filled a d2 d5 d6 d7 none none none (some (ptr h7))) w := by
    intro h7 w T
    exact wpAnyLast_ready t155 (by simp) (AllReadyL.cons e2 (by decide) (fun K hK => call_step p2 g2 n2 hf hfn hfb c2 _ w K (A2 _ _ _ _) (fun w' hb => hK.out _ _ (hS _ (T.call hb).below) (fun _ => by rw [filled2 k52 k62 k72]; exact S1001 h7 w' (T.call hb)))) (AllReadyL.cons e6 (by decide) (fun K hK => alloc_step g6 n6 r6 _ w K (hK.out _ _ (hS _ T.lay6.below) (fun _ => by rw [filled6 k76]; exact S0011 w.heap.size h7 _ T.lay6))) AllReadyL.nil))
  have S0000 : ∀ (w : World), Two W w z none none → wpAnyLast P .any ops Q S [8, 9] 6 (bl 10 27) (filled a d2 d5 d6 d7 none none none none) w := by
    intro w T
    exact wpAnyLast_ready t27 (by simp) (AllReadyL.cons e2 (by decide) (fun K hK => call_step p2 g2 n2 hf hfn hfb c2 _ w K (A2 _ _ _ _) (fun w' hb => hK.out _ _ (hS _ (T.call hb).below) (fun _ => by rw [filled2 k52 k62 k72]; exact S1000  w' (T.call hb)))) (AllReadyL.cons e6 (by decide) (fun K hK => alloc_step g6 n6 r6 _ w K (hK.out _ _ (hS _ T.lay6.below) (fun _ => by rw [filled6 k76]; exact S0010 w.heap.size _ T.lay6))) (AllReadyL.cons e7 (by decide) (fun K hK => alloc_step g7 n7 r7 _ w K (hK.out _ _ (hS _ T.lay7.below) (fun _ => by rw [filled7]; exact S0001 w.heap.size _ T.lay7))) AllReadyL.nil)))
  exact S0000 W ⟨Below.refl _ _, fun g h => (by cases h), fun g h => (by cases h), fun g h e => (by cases e)⟩
end

end Go.Proofs.Ytcchelfopbgolaa.Blocks
