/- The walk of the law IntervalMonotone: it returns true. Conditions: as each theorem says. -/
import Derived.Test.YtcchelfopbgolaaPairs
import Derived.Test.YtcchelfopbgolaaPlainMono
namespace Go.Proofs.Ytcchelfopbgolaa.Monotone
open Go.RowKit Go.Proofs.Ytcchelfopbgolaa.PIntervalSets Go.Proofs.YtcchelfopbgolaaW.PrintWords Go.Proofs.YtcchelfopbgolaaW.PrintLast Go.Proofs.YtcchelfopbgolaaW.PrintMore
open Go.Proofs.YtcchelfopbgolaaPlain Base Blocks Small Corners Divide Divides Decide Apply Awake
set_option linter.unusedSimpArgs false
set_option linter.unusedVariables false

theorem within_r (a b c d : Int) (r : Bool) (h : wi a b c d = r) (w : World) : Calls Try.prog 14 #[.agg #[.int .i32 a, .int .i32 b], .agg #[.int .i32 c, .int .i32 d]] w fun e w' => e = .returned (.bool r) ∧ Below w.heap.size w w' := by
  have := within_c a b c d w
  rwa [h] at this
theorem join_r (a b c d r1 r2 : Int) (h : jn a b c d = (r1, r2)) (w : World) :
    Calls Try.prog 11 #[.agg #[.int .i32 a, .int .i32 b], .agg #[.int .i32 c, .int .i32 d]] w fun e w' => e = .returned (.agg #[.int .i32 r1, .int .i32 r2]) ∧ Below w.heap.size w w' := by
  have := join_c a b c d w
  rwa [h] at this

/-- What a call answers, from every world. -/
abbrev Ans (f : FuncId) (args : Array Value) (v : Value) : Prop := ∀ w : World, Calls Try.prog f args w fun e w' => e = .returned v ∧ Below w.heap.size w w'
/-- Both bounds are words. -/
def In (p : Int × Int) : Prop := (-2147483648 ≤ p.1 ∧ p.1 ≤ 2147483647) ∧ -2147483648 ≤ p.2 ∧ p.2 ≤ 2147483647
theorem in_jn {a b c d : Int} (h1 : In (a, b)) (h2 : In (c, d)) : In (jn a b c d) := by
  unfold In at *
  rcases jn_def a b c d with ⟨_, _, e⟩ | ⟨_, _, e⟩ | ⟨_, _, e⟩ | ⟨_, _, e⟩ <;> rw [e] <;> simp only at * <;> omega
theorem in_met {a b c d : Int} (h1 : In (a, b)) (h2 : In (c, d)) : In (met a b c d) := by
  unfold In at *
  rcases met_def a b c d with ⟨_, e⟩ | ⟨_, _, _, e⟩ <;> rw [e] <;> simp only at * <;> omega
theorem ans (k a b c d : Int) (h1 : In (a, b)) (h2 : In (c, d)) : Ans 20 #[.int .u8 k, .agg #[.int .i32 a, .int .i32 b], .agg #[.int .i32 c, .int .i32 d]] (.agg #[.int .i32 (iap k a b c d).1, .int .i32 (iap k a b c d).2]) := fun w =>
  apply_r k a b c d _ _ h1.1.1 h1.1.2 h1.2.1 h1.2.2 h2.1.1 h2.1.2 h2.2.1 h2.2.2 rfl w

def T_9_1 : Bool × List (List Nat × List Nat) := (true, [([], []), ([], []), ([0, 1], [0, 1]), ([], []), ([], []), ([3, 4, 2], [3, 4]), ([], []), ([], []), ([6, 2, 5, 0, 1, 2, 6, 7], [2, 6]), ([7, 5, 8, 0, 1, 2, 3, 4, 5, 6, 7, 8], [5, 7])])
def B_9_1 : List Nat := [0, 0, 3, 0, 0, 31, 0, 0, 255, 511]
theorem tab_9_1 : rtab .any (opsOf Try.f9 1) = T_9_1 := by kernel_rfl
theorem bits_9_1 : waitsOk T_9_1.2 B_9_1 = true := by kernel_rfl
def T_9_2 : Bool × List (List Nat × List Nat) := (true, [([], []), ([0, 0], [0]), ([1], [1]), ([1], [1]), ([1], [1]), ([2, 3, 4, 1, 1], [1, 2, 3, 4]), ([1], [1]), ([1], [1]), ([1], [1]), ([6, 7, 8, 5, 1], [1, 6, 7, 8]), ([5, 9, 9, 1], [1, 5, 9]), ([1, 10], [1, 10]), ([11, 10], [11]), ([12], [12]), ([12], [12]), ([12], [12]), ([14, 15, 12, 12], [12, 14, 15]), ([12], [12]), ([13, 16, 17, 16, 12], [12, 13, 16, 17]), ([12], [12]), ([12], [12]), ([12], [12]), ([19, 20, 21, 18, 12], [12, 19, 20, 21]), ([18, 22, 22, 12], [12, 18, 22]), ([12, 23], [12, 23]), ([24, 23, 0, 1, 2, 3, 4, 5, 6, 7, 8, 9, 10, 11, 12, 13, 14, 15, 16, 17, 18, 19, 20, 21, 22, 23, 24], [24])])
def B_9_2 : List Nat := [0, 1, 3, 3, 3, 31, 3, 3, 3, 511, 1023, 2047, 4095, 8191, 8191, 8191, 57343, 8191, 262143, 8191, 8191, 8191, 4194303, 8388607, 16777215, 33554431]
theorem tab_9_2 : rtab .any (opsOf Try.f9 2) = T_9_2 := by kernel_rfl
theorem bits_9_2 : waitsOk T_9_2.2 B_9_2 = true := by kernel_rfl

set_option maxRecDepth 100000 in
set_option maxHeartbeats 16000000 in
theorem mono_walk (k a b c d p q r s j1 j2 l1 l2 z1 z2 y1 y2 m1 m2 x1 x2 : Int) (hj : jn a b p q = (j1, j2)) (hl : jn c d r s = (l1, l2)) (hm : met a b p q = (m1, m2))
    (hw1 : wi z1 z2 y1 y2 = true) (hw2 : wi x1 x2 z1 z2 = true)
    (A1 : Hid (Ans 20 #[.int .u8 k, .agg #[.int .i32 a, .int .i32 b], .agg #[.int .i32 c, .int .i32 d]] (.agg #[.int .i32 z1, .int .i32 z2]))) (A2 : Hid (Ans 20 #[.int .u8 k, .agg #[.int .i32 j1, .int .i32 j2], .agg #[.int .i32 l1, .int .i32 l2]] (.agg #[.int .i32 y1, .int .i32 y2]))) (A3 : Hid (Ans 20 #[.int .u8 k, .agg #[.int .i32 m1, .int .i32 m2], .agg #[.int .i32 c, .int .i32 d]] (.agg #[.int .i32 x1, .int .i32 x2]))) (w : World) :
    Calls Try.prog 9 #[.int .u8 k, .agg #[.int .i32 a, .int .i32 b], .agg #[.int .i32 c, .int .i32 d], .agg #[.int .i32 p, .int .i32 q], .agg #[.int .i32 r, .int .i32 s]] w fun e w' => e = .returned (.bool true) ∧ Below w.heap.size w w' := by
  have Hhj := Lib.hid hj
  have Hhl := Lib.hid hl
  have Hhm := Lib.hid hm
  have Hhw1 := Lib.hid hw1
  have Hhw2 := Lib.hid hw2
  clear hj hl hm hw1 hw2
  have F := Fr.four w 23 #[.int .i32 a, .int .i32 b] 23 #[.int .i32 c, .int .i32 d] 23 #[.int .i32 p, .int .i32 q] 23 #[.int .i32 r, .int .i32 s]
  obtain ⟨p0, q0, -, -⟩ := F.pair0 23 _ _ rfl
  obtain ⟨p1, q1, -, -⟩ := F.pair1 23 _ _ rfl
  obtain ⟨p2, q2, -, -⟩ := F.pair2 23 _ _ rfl
  obtain ⟨p3, q3, -, -⟩ := F.pair3 23 _ _ rfl
  have hu23 := Try.underlying23
  go_enter Try.func9, Try.ntmps9
  go_upto_region 1 with fail
  refine start_ (n := 10) (S := fun w' => w'.cell? ⟨w.heap.size, 0, none⟩ = some (.int .i32 a) ∧ w'.cell? ⟨w.heap.size, 1, none⟩ = some (.int .i32 b) ∧ w'.cell? ⟨w.heap.size + 1, 0, none⟩ = some (.int .i32 c) ∧ w'.cell? ⟨w.heap.size + 1, 1, none⟩ = some (.int .i32 d) ∧ w'.cell? ⟨w.heap.size + 1 + 1, 0, none⟩ = some (.int .i32 p) ∧ w'.cell? ⟨w.heap.size + 1 + 1, 1, none⟩ = some (.int .i32 q) ∧ w'.cell? ⟨w.heap.size + 1 + 1 + 1, 0, none⟩ = some (.int .i32 r) ∧ w'.cell? ⟨w.heap.size + 1 + 1 + 1, 1, none⟩ = some (.int .i32 s)) (ds := [8, 9]) (bl 10 0) (by kernel_rfl) rfl (by kernel_rfl) ⟨p0, q0, p1, q1, p2, q2, p3, q3⟩ (fun hHeld => ?_)
  replace F := F.drew
  refine with_tabW tab_9_1 bits_9_1 (fun HT_ HW_ => ?_)
  refine take_ (i := 0) (N := some 13) (v := ?_) (a' := ?_) (bl 10 1) rfl rfl (take_ofW HT_.out HW_.out (by kernel_rfl)) (fun _ _ _ h => h) (Or.inl ⟨by rfl, ?_⟩) hHeld ?_ ?_
  rotate_left
  (rintro w' ⟨s0, s1, s2, s3, s4, s5, s6, s7⟩; go_simp; with_reducible rfl)
  rotate_left
  (simp only [Act.put, List.setIfInBounds_toArray, List.set_cons_zero, List.set_cons_succ, i64_w, i32_w]; rfl)
  refine take_ (i := 1) (N := some 14) (v := ?_) (a' := ?_) (bl 10 3) rfl rfl (take_ofW HT_.out HW_.out (by kernel_rfl)) (fun _ _ _ h => h) (Or.inl ⟨by rfl, ?_⟩) hHeld ?_ ?_
  rotate_left
  (rintro w' ⟨s0, s1, s2, s3, s4, s5, s6, s7⟩; go_simp; with_reducible rfl)
  rotate_left
  (simp only [Act.put, List.setIfInBounds_toArray, List.set_cons_zero, List.set_cons_succ, i64_w, i32_w]; rfl)
  refine take_ (i := 3) (N := some 16) (v := ?_) (a' := ?_) (bl 10 11) rfl rfl (take_ofW HT_.out HW_.out (by kernel_rfl)) (fun _ _ _ h => h) (Or.inl ⟨by rfl, ?_⟩) hHeld ?_ ?_
  rotate_left
  (rintro w' ⟨s0, s1, s2, s3, s4, s5, s6, s7⟩; go_simp; with_reducible rfl)
  rotate_left
  (simp only [Act.put, List.setIfInBounds_toArray, List.set_cons_zero, List.set_cons_succ, i64_w, i32_w]; rfl)
  refine take_ (i := 4) (N := some 17) (v := ?_) (a' := ?_) (bl 10 27) rfl rfl (take_ofW HT_.out HW_.out (by kernel_rfl)) (fun _ _ _ h => h) (Or.inl ⟨by rfl, ?_⟩) hHeld ?_ ?_
  rotate_left
  (rintro w' ⟨s0, s1, s2, s3, s4, s5, s6, s7⟩; go_simp; with_reducible rfl)
  rotate_left
  (simp only [Act.put, List.setIfInBounds_toArray, List.set_cons_zero, List.set_cons_succ, i64_w, i32_w]; rfl)
  have hsz := F.size 3 _ rfl
  refine pair_orders (f := 11) (g := 11) (v2 := .agg #[.int .i32 j1, .int .i32 j2]) (v5 := .agg #[.int .i32 l1, .int .i32 l2]) (z := #[.int .i32 0, .int .i32 0]) (by kernel_rfl) rfl rfl rfl rfl rfl rfl rfl rfl rfl rfl rfl rfl (fun a w => by first | (go_simp; done) | (go_simp; rfl)) rfl rfl (fun a w => by first | (go_simp; done) | (go_simp; rfl)) Try.func11 (by kernel_rfl) rfl (fun w => join_r a b p q j1 j2 Hhj.out w) Try.func11 (by kernel_rfl) rfl (fun w => join_r c d r s l1 l2 Hhl.out w) (by decide) ?hS rfl rfl rfl rfl ?hF
  case hS =>
    intro w' hb
    have F : Fr w w' [(23, #[.int .i32 a, .int .i32 b]), (23, #[.int .i32 c, .int .i32 d]), (23, #[.int .i32 p, .int .i32 q]), (23, #[.int .i32 r, .int .i32 s])] := F.call hb
    (try clear p0 q0 p1 q1 p2 q2 p3 q3)
    obtain ⟨p0, q0, -, -⟩ := F.pair0 23 _ _ rfl
    obtain ⟨p1, q1, -, -⟩ := F.pair1 23 _ _ rfl
    obtain ⟨p2, q2, -, -⟩ := F.pair2 23 _ _ rfl
    obtain ⟨p3, q3, -, -⟩ := F.pair3 23 _ _ rfl
    exact ⟨p0, q0, p1, q1, p2, q2, p3, q3⟩
  intro g9 g10 w2 hb l9 l10 hne K9 K10
  have h9 : w.heap.size + 4 ≤ g9 := Nat.le_trans hsz l9
  have h10 : w.heap.size + 4 ≤ g10 := Nat.le_trans hsz l10
  have F : Fr w w2 [(23, #[.int .i32 a, .int .i32 b]), (23, #[.int .i32 c, .int .i32 d]), (23, #[.int .i32 p, .int .i32 q]), (23, #[.int .i32 r, .int .i32 s])] := F.call hb
  simp only [Act.put, List.setIfInBounds_toArray, List.set_cons_zero, List.set_cons_succ, i64_w, i32_w]
  have hne2 : g10 ≠ g9 := Ne.symm hne
  obtain ⟨ca, cb, fa, fb⟩ : w2.cell? ⟨g9, 0, none⟩ = some (.int .i32 0) ∧ w2.cell? ⟨g9, 1, none⟩ = some (.int .i32 0) ∧ w2.frozen? ⟨g9, 0, none⟩ = false ∧ w2.frozen? ⟨g9, 1, none⟩ = false := ⟨(blk_cell K9 0).trans rfl, (blk_cell K9 1).trans rfl, blk_frozen K9 0, blk_frozen K9 1⟩
  refine last_ (i := 8) (N := none) (bl 10 511) rfl rfl (one_of HT_.out (by kernel_rfl)) (by decide) (fun K hK => ?_)
  rw [if_pos (by rfl)]
  go_simp
  refine hK.out _ _ ?_
  clear hK K ca cb fa fb
  have K9 : ((w2.setCell ⟨g9, 0, none⟩ (.int .i32 j1)).setCell ⟨g9, 1, none⟩ (.int .i32 j2)).heap[g9]? = some (.cells #[.int .i32 j1, .int .i32 j2] 23 (0, 0)) := blk_put (cs := #[.int .i32 j1, .int .i32 0]) (blk_put (cs := #[.int .i32 0, .int .i32 0]) K9 0 _ rfl) 1 _ rfl
  have K10 : ((w2.setCell ⟨g9, 0, none⟩ (.int .i32 j1)).setCell ⟨g9, 1, none⟩ (.int .i32 j2)).heap[g10]? = some (.cells #[.int .i32 0, .int .i32 0] 23 (0, 0)) := blk_far (blk_far K10 (p := ⟨g9, 0, none⟩) (by simpa using hne2) _) (p := ⟨g9, 1, none⟩) (by simpa using hne2) _
  have F := (F.far g9 0 (by simpa using h9) (.int .i32 j1)).far g9 1 (by simpa using h9) (.int .i32 j2)
  generalize (w2.setCell ⟨g9, 0, none⟩ (.int .i32 j1)).setCell ⟨g9, 1, none⟩ (.int .i32 j2) = w3 at *
  obtain ⟨ca, cb, fa, fb⟩ : w3.cell? ⟨g10, 0, none⟩ = some (.int .i32 0) ∧ w3.cell? ⟨g10, 1, none⟩ = some (.int .i32 0) ∧ w3.frozen? ⟨g10, 0, none⟩ = false ∧ w3.frozen? ⟨g10, 1, none⟩ = false := ⟨(blk_cell K10 0).trans rfl, (blk_cell K10 1).trans rfl, blk_frozen K10 0, blk_frozen K10 1⟩
  refine last_ (i := 9) (N := none) (bl 10 1023) rfl rfl (one_of HT_.out (by kernel_rfl)) (by decide) (fun K hK => ?_)
  rw [if_pos (by rfl)]
  go_simp
  refine hK.out _ _ ?_
  clear hK K ca cb fa fb
  have K10 : ((w3.setCell ⟨g10, 0, none⟩ (.int .i32 l1)).setCell ⟨g10, 1, none⟩ (.int .i32 l2)).heap[g10]? = some (.cells #[.int .i32 l1, .int .i32 l2] 23 (0, 0)) := blk_put (cs := #[.int .i32 l1, .int .i32 0]) (blk_put (cs := #[.int .i32 0, .int .i32 0]) K10 0 _ rfl) 1 _ rfl
  have K9 : ((w3.setCell ⟨g10, 0, none⟩ (.int .i32 l1)).setCell ⟨g10, 1, none⟩ (.int .i32 l2)).heap[g9]? = some (.cells #[.int .i32 j1, .int .i32 j2] 23 (0, 0)) := blk_far (blk_far K9 (p := ⟨g10, 0, none⟩) (by simpa using hne) _) (p := ⟨g10, 1, none⟩) (by simpa using hne) _
  have F := (F.far g10 0 (by simpa using h10) (.int .i32 l1)).far g10 1 (by simpa using h10) (.int .i32 l2)
  generalize (w3.setCell ⟨g10, 0, none⟩ (.int .i32 l1)).setCell ⟨g10, 1, none⟩ (.int .i32 l2) = w4 at *
  refine done_ (by kernel_rfl) ?_
  (try clear p0 q0 p1 q1 p2 q2 p3 q3)
  obtain ⟨p0, q0, -, -⟩ := F.pair0 23 _ _ rfl
  obtain ⟨p1, q1, -, -⟩ := F.pair1 23 _ _ rfl
  obtain ⟨p2, q2, -, -⟩ := F.pair2 23 _ _ rfl
  obtain ⟨p3, q3, -, -⟩ := F.pair3 23 _ _ rfl
  (try clear K9a K9b)
  have K9a : w4.cell? ⟨g9, 0, none⟩ = some (.int .i32 j1) := (blk_cell K9 0).trans rfl
  have K9b : w4.cell? ⟨g9, 1, none⟩ = some (.int .i32 j2) := (blk_cell K9 1).trans rfl
  (try clear K10a K10b)
  have K10a : w4.cell? ⟨g10, 0, none⟩ = some (.int .i32 l1) := (blk_cell K10 0).trans rfl
  have K10b : w4.cell? ⟨g10, 1, none⟩ = some (.int .i32 l2) := (blk_cell K10 1).trans rfl
  go_upto_region 2 with fail
  refine start_ (n := 26) (S := fun w' => w'.cell? ⟨w.heap.size, 0, none⟩ = some (.int .i32 a) ∧ w'.cell? ⟨w.heap.size, 1, none⟩ = some (.int .i32 b) ∧ w'.cell? ⟨w.heap.size + 1, 0, none⟩ = some (.int .i32 c) ∧ w'.cell? ⟨w.heap.size + 1, 1, none⟩ = some (.int .i32 d) ∧ w'.cell? ⟨w.heap.size + 1 + 1, 0, none⟩ = some (.int .i32 p) ∧ w'.cell? ⟨w.heap.size + 1 + 1, 1, none⟩ = some (.int .i32 q) ∧ w'.cell? ⟨w.heap.size + 1 + 1 + 1, 0, none⟩ = some (.int .i32 r) ∧ w'.cell? ⟨w.heap.size + 1 + 1 + 1, 1, none⟩ = some (.int .i32 s) ∧ w'.cell? ⟨g9, 0, none⟩ = some (.int .i32 j1) ∧ w'.cell? ⟨g9, 1, none⟩ = some (.int .i32 j2) ∧ w'.cell? ⟨g10, 0, none⟩ = some (.int .i32 l1) ∧ w'.cell? ⟨g10, 1, none⟩ = some (.int .i32 l2)) (ds := []) (bl 26 0) (by kernel_rfl) rfl (by kernel_rfl) ⟨p0, q0, p1, q1, p2, q2, p3, q3, K9a, K9b, K10a, K10b⟩ (fun hHeld => ?_)
  replace F := F.drew
  replace K9 := blk_drew K9
  replace K10 := blk_drew K10
  refine with_tabW tab_9_2 bits_9_2 (fun HT_ HW_ => ?_)
  refine one_ (i := 0) (N := some 19) (bl 26 1) rfl rfl (one_of HT_.out (by kernel_rfl)) (by decide) (fun K hK => ?_)
  rw [if_pos (by rfl)]
  go_simp
  go_at_call 13
  (with_reducible refine (awake_c _).mono ?_)
  rintro e w1 ⟨rfl, hb⟩
  replace F : Fr w w1 [(23, #[.int .i32 a, .int .i32 b]), (23, #[.int .i32 c, .int .i32 d]), (23, #[.int .i32 p, .int .i32 q]), (23, #[.int .i32 r, .int .i32 s])] := (by first | exact F.call hb | exact F.drew.call hb | exact (F.drewN _).call hb)
  (try clear p0 q0 p1 q1 p2 q2 p3 q3)
  obtain ⟨p0, q0, -, -⟩ := F.pair0 23 _ _ rfl
  obtain ⟨p1, q1, -, -⟩ := F.pair1 23 _ _ rfl
  obtain ⟨p2, q2, -, -⟩ := F.pair2 23 _ _ rfl
  obtain ⟨p3, q3, -, -⟩ := F.pair3 23 _ _ rfl
  replace K9 : w1.heap[g9]? = some (.cells #[.int .i32 j1, .int .i32 j2] 23 (0, 0)) := blk_below K9 hb
  (try clear K9a K9b)
  have K9a : w1.cell? ⟨g9, 0, none⟩ = some (.int .i32 j1) := (blk_cell K9 0).trans rfl
  have K9b : w1.cell? ⟨g9, 1, none⟩ = some (.int .i32 j2) := (blk_cell K9 1).trans rfl
  replace K10 : w1.heap[g10]? = some (.cells #[.int .i32 l1, .int .i32 l2] 23 (0, 0)) := blk_below K10 hb
  (try clear K10a K10b)
  have K10a : w1.cell? ⟨g10, 0, none⟩ = some (.int .i32 l1) := (blk_cell K10 0).trans rfl
  have K10b : w1.cell? ⟨g10, 1, none⟩ = some (.int .i32 l2) := (blk_cell K10 1).trans rfl
  clear hb
  refine hK.out _ _ ⟨p0, q0, p1, q1, p2, q2, p3, q3, K9a, K9b, K10a, K10b⟩ (fun hHeld => ?_)
  clear hK K
  refine pure_ (i := 1) (N := some 20) (v := ?_) (a' := ?_) (bl 26 3) rfl rfl (any_of HT_.out (by kernel_rfl)) (fun _ _ _ h => h) (Or.inl ⟨by rfl, ?_⟩) ?_ ?_
  rotate_left
  (intro w'; go_simp; with_reducible rfl)
  rotate_left
  (simp only [Act.put, List.setIfInBounds_toArray, List.set_cons_zero, List.set_cons_succ, i64_w, i32_w]; rfl)
  refine pure_ (i := 2) (N := some 21) (v := ?_) (a' := ?_) (bl 26 7) rfl rfl (any_of HT_.out (by kernel_rfl)) (fun _ _ _ h => h) (Or.inl ⟨by rfl, ?_⟩) ?_ ?_
  rotate_left
  (intro w'; go_simp; with_reducible rfl)
  rotate_left
  (simp only [Act.put, List.setIfInBounds_toArray, List.set_cons_zero, List.set_cons_succ, i64_w, i32_w]; rfl)
  refine take_ (i := 3) (N := some 22) (v := ?_) (a' := ?_) (bl 26 15) rfl rfl (take_ofW HT_.out HW_.out (by kernel_rfl)) (fun _ _ _ h => h) (Or.inl ⟨by rfl, ?_⟩) hHeld ?_ ?_
  rotate_left
  (rintro w' ⟨s0, s1, s2, s3, s4, s5, s6, s7, s8, s9, s10, s11⟩; go_simp; with_reducible rfl)
  rotate_left
  (simp only [Act.put, List.setIfInBounds_toArray, List.set_cons_zero, List.set_cons_succ, i64_w, i32_w]; rfl)
  refine take_ (i := 4) (N := some 23) (v := ?_) (a' := ?_) (bl 26 31) rfl rfl (take_ofW HT_.out HW_.out (by kernel_rfl)) (fun _ _ _ h => h) (Or.inl ⟨by rfl, ?_⟩) hHeld ?_ ?_
  rotate_left
  (rintro w' ⟨s0, s1, s2, s3, s4, s5, s6, s7, s8, s9, s10, s11⟩; go_simp; with_reducible rfl)
  rotate_left
  (simp only [Act.put, List.setIfInBounds_toArray, List.set_cons_zero, List.set_cons_succ, i64_w, i32_w]; rfl)
  refine pure_ (i := 6) (N := some 25) (v := ?_) (a' := ?_) (bl 26 95) rfl rfl (any_of HT_.out (by kernel_rfl)) (fun _ _ _ h => h) (Or.inl ⟨by rfl, ?_⟩) ?_ ?_
  rotate_left
  (intro w'; go_simp; with_reducible rfl)
  rotate_left
  (simp only [Act.put, List.setIfInBounds_toArray, List.set_cons_zero, List.set_cons_succ, i64_w, i32_w]; rfl)
  refine take_ (i := 7) (N := some 26) (v := ?_) (a' := ?_) (bl 26 223) rfl rfl (take_ofW HT_.out HW_.out (by kernel_rfl)) (fun _ _ _ h => h) (Or.inl ⟨by rfl, ?_⟩) hHeld ?_ ?_
  rotate_left
  (rintro w' ⟨s0, s1, s2, s3, s4, s5, s6, s7, s8, s9, s10, s11⟩; go_simp; with_reducible rfl)
  rotate_left
  (simp only [Act.put, List.setIfInBounds_toArray, List.set_cons_zero, List.set_cons_succ, i64_w, i32_w]; rfl)
  refine take_ (i := 8) (N := some 27) (v := ?_) (a' := ?_) (bl 26 479) rfl rfl (take_ofW HT_.out HW_.out (by kernel_rfl)) (fun _ _ _ h => h) (Or.inl ⟨by rfl, ?_⟩) hHeld ?_ ?_
  rotate_left
  (rintro w' ⟨s0, s1, s2, s3, s4, s5, s6, s7, s8, s9, s10, s11⟩; go_simp; with_reducible rfl)
  rotate_left
  (simp only [Act.put, List.setIfInBounds_toArray, List.set_cons_zero, List.set_cons_succ, i64_w, i32_w]; rfl)
  refine one_ (i := 5) (N := some 24) (bl 26 511) rfl rfl (one_of HT_.out (by kernel_rfl)) (by decide) (fun K hK => ?_)
  rw [if_pos (by rfl)]
  go_simp
  go_at_call 20
  (with_reducible refine (A1.out _).mono ?_)
  rintro e w1 ⟨rfl, hb⟩
  replace F : Fr w w1 [(23, #[.int .i32 a, .int .i32 b]), (23, #[.int .i32 c, .int .i32 d]), (23, #[.int .i32 p, .int .i32 q]), (23, #[.int .i32 r, .int .i32 s])] := (by first | exact F.call hb | exact F.drew.call hb | exact (F.drewN _).call hb)
  (try clear p0 q0 p1 q1 p2 q2 p3 q3)
  obtain ⟨p0, q0, -, -⟩ := F.pair0 23 _ _ rfl
  obtain ⟨p1, q1, -, -⟩ := F.pair1 23 _ _ rfl
  obtain ⟨p2, q2, -, -⟩ := F.pair2 23 _ _ rfl
  obtain ⟨p3, q3, -, -⟩ := F.pair3 23 _ _ rfl
  replace K9 : w1.heap[g9]? = some (.cells #[.int .i32 j1, .int .i32 j2] 23 (0, 0)) := blk_below K9 hb
  (try clear K9a K9b)
  have K9a : w1.cell? ⟨g9, 0, none⟩ = some (.int .i32 j1) := (blk_cell K9 0).trans rfl
  have K9b : w1.cell? ⟨g9, 1, none⟩ = some (.int .i32 j2) := (blk_cell K9 1).trans rfl
  replace K10 : w1.heap[g10]? = some (.cells #[.int .i32 l1, .int .i32 l2] 23 (0, 0)) := blk_below K10 hb
  (try clear K10a K10b)
  have K10a : w1.cell? ⟨g10, 0, none⟩ = some (.int .i32 l1) := (blk_cell K10 0).trans rfl
  have K10b : w1.cell? ⟨g10, 1, none⟩ = some (.int .i32 l2) := (blk_cell K10 1).trans rfl
  clear hb
  refine hK.out _ _ ⟨p0, q0, p1, q1, p2, q2, p3, q3, K9a, K9b, K10a, K10b⟩ (fun hHeld => ?_)
  clear hK K
  refine one_ (i := 9) (N := some 28) (bl 26 1023) rfl rfl (one_of HT_.out (by kernel_rfl)) (by decide) (fun K hK => ?_)
  rw [if_pos (by rfl)]
  go_simp
  go_at_call 20
  (with_reducible refine (A2.out _).mono ?_)
  rintro e w1 ⟨rfl, hb⟩
  replace F : Fr w w1 [(23, #[.int .i32 a, .int .i32 b]), (23, #[.int .i32 c, .int .i32 d]), (23, #[.int .i32 p, .int .i32 q]), (23, #[.int .i32 r, .int .i32 s])] := (by first | exact F.call hb | exact F.drew.call hb | exact (F.drewN _).call hb)
  (try clear p0 q0 p1 q1 p2 q2 p3 q3)
  obtain ⟨p0, q0, -, -⟩ := F.pair0 23 _ _ rfl
  obtain ⟨p1, q1, -, -⟩ := F.pair1 23 _ _ rfl
  obtain ⟨p2, q2, -, -⟩ := F.pair2 23 _ _ rfl
  obtain ⟨p3, q3, -, -⟩ := F.pair3 23 _ _ rfl
  replace K9 : w1.heap[g9]? = some (.cells #[.int .i32 j1, .int .i32 j2] 23 (0, 0)) := blk_below K9 hb
  (try clear K9a K9b)
  have K9a : w1.cell? ⟨g9, 0, none⟩ = some (.int .i32 j1) := (blk_cell K9 0).trans rfl
  have K9b : w1.cell? ⟨g9, 1, none⟩ = some (.int .i32 j2) := (blk_cell K9 1).trans rfl
  replace K10 : w1.heap[g10]? = some (.cells #[.int .i32 l1, .int .i32 l2] 23 (0, 0)) := blk_below K10 hb
  (try clear K10a K10b)
  have K10a : w1.cell? ⟨g10, 0, none⟩ = some (.int .i32 l1) := (blk_cell K10 0).trans rfl
  have K10b : w1.cell? ⟨g10, 1, none⟩ = some (.int .i32 l2) := (blk_cell K10 1).trans rfl
  clear hb
  refine hK.out _ _ ⟨p0, q0, p1, q1, p2, q2, p3, q3, K9a, K9b, K10a, K10b⟩ (fun hHeld => ?_)
  clear hK K
  refine one_ (i := 10) (N := some 29) (bl 26 2047) rfl rfl (one_of HT_.out (by kernel_rfl)) (by decide) (fun K hK => ?_)
  rw [if_pos (by rfl)]
  go_simp
  go_at_call 14
  (with_reducible refine (within_r z1 z2 y1 y2 _ Hhw1.out _).mono ?_)
  rintro e w1 ⟨rfl, hb⟩
  replace F : Fr w w1 [(23, #[.int .i32 a, .int .i32 b]), (23, #[.int .i32 c, .int .i32 d]), (23, #[.int .i32 p, .int .i32 q]), (23, #[.int .i32 r, .int .i32 s])] := (by first | exact F.call hb | exact F.drew.call hb | exact (F.drewN _).call hb)
  (try clear p0 q0 p1 q1 p2 q2 p3 q3)
  obtain ⟨p0, q0, -, -⟩ := F.pair0 23 _ _ rfl
  obtain ⟨p1, q1, -, -⟩ := F.pair1 23 _ _ rfl
  obtain ⟨p2, q2, -, -⟩ := F.pair2 23 _ _ rfl
  obtain ⟨p3, q3, -, -⟩ := F.pair3 23 _ _ rfl
  replace K9 : w1.heap[g9]? = some (.cells #[.int .i32 j1, .int .i32 j2] 23 (0, 0)) := blk_below K9 hb
  (try clear K9a K9b)
  have K9a : w1.cell? ⟨g9, 0, none⟩ = some (.int .i32 j1) := (blk_cell K9 0).trans rfl
  have K9b : w1.cell? ⟨g9, 1, none⟩ = some (.int .i32 j2) := (blk_cell K9 1).trans rfl
  replace K10 : w1.heap[g10]? = some (.cells #[.int .i32 l1, .int .i32 l2] 23 (0, 0)) := blk_below K10 hb
  (try clear K10a K10b)
  have K10a : w1.cell? ⟨g10, 0, none⟩ = some (.int .i32 l1) := (blk_cell K10 0).trans rfl
  have K10b : w1.cell? ⟨g10, 1, none⟩ = some (.int .i32 l2) := (blk_cell K10 1).trans rfl
  clear hb
  refine hK.out _ _ ⟨p0, q0, p1, q1, p2, q2, p3, q3, K9a, K9b, K10a, K10b⟩ (fun hHeld => ?_)
  clear hK K
  refine pure_ (i := 11) (N := some 30) (v := ?_) (a' := ?_) (bl 26 4095) rfl rfl (any_of HT_.out (by kernel_rfl)) (fun _ _ _ h => h) (Or.inl ⟨by rfl, ?_⟩) ?_ ?_
  rotate_left
  (intro w'; go_simp; with_reducible rfl)
  rotate_left
  (simp only [Act.put, List.setIfInBounds_toArray, List.set_cons_zero, List.set_cons_succ, i64_w, i32_w]; rfl)
  refine pure_ (i := 12) (N := some 31) (v := ?_) (a' := ?_) (bl 26 8191) rfl rfl (any_of HT_.out (by kernel_rfl)) (fun _ _ _ h => h) (Or.inl ⟨by rfl, ?_⟩) ?_ ?_
  rotate_left
  (intro w'; go_simp; with_reducible rfl)
  rotate_left
  (simp only [Act.put, List.setIfInBounds_toArray, List.set_cons_zero, List.set_cons_succ, i64_w, i32_w]; rfl)
  refine pure_ (i := 13) (N := some 32) (v := ?_) (a' := ?_) (bl 26 16383) rfl rfl (any_of HT_.out (by kernel_rfl)) (fun _ _ _ h => h) (Or.inl ⟨by rfl, ?_⟩) ?_ ?_
  rotate_left
  (intro w'; go_simp; with_reducible rfl)
  rotate_left
  (simp only [Act.put, List.setIfInBounds_toArray, List.set_cons_zero, List.set_cons_succ, i64_w, i32_w]; rfl)
  refine take_ (i := 14) (N := some 33) (v := ?_) (a' := ?_) (bl 26 32767) rfl rfl (take_ofW HT_.out HW_.out (by kernel_rfl)) (fun _ _ _ h => h) (Or.inl ⟨by rfl, ?_⟩) hHeld ?_ ?_
  rotate_left
  (rintro w' ⟨s0, s1, s2, s3, s4, s5, s6, s7, s8, s9, s10, s11⟩; go_simp; with_reducible rfl)
  rotate_left
  (simp only [Act.put, List.setIfInBounds_toArray, List.set_cons_zero, List.set_cons_succ, i64_w, i32_w]; rfl)
  refine take_ (i := 15) (N := some 34) (v := ?_) (a' := ?_) (bl 26 65535) rfl rfl (take_ofW HT_.out HW_.out (by kernel_rfl)) (fun _ _ _ h => h) (Or.inl ⟨by rfl, ?_⟩) hHeld ?_ ?_
  rotate_left
  (rintro w' ⟨s0, s1, s2, s3, s4, s5, s6, s7, s8, s9, s10, s11⟩; go_simp; with_reducible rfl)
  rotate_left
  (simp only [Act.put, List.setIfInBounds_toArray, List.set_cons_zero, List.set_cons_succ, i64_w, i32_w]; rfl)
  refine take_ (i := 17) (N := some 36) (v := ?_) (a' := ?_) (bl 26 196607) rfl rfl (take_ofW HT_.out HW_.out (by kernel_rfl)) (fun _ _ _ h => h) (Or.inl ⟨by rfl, ?_⟩) hHeld ?_ ?_
  rotate_left
  (rintro w' ⟨s0, s1, s2, s3, s4, s5, s6, s7, s8, s9, s10, s11⟩; go_simp; with_reducible rfl)
  rotate_left
  (simp only [Act.put, List.setIfInBounds_toArray, List.set_cons_zero, List.set_cons_succ, i64_w, i32_w]; rfl)
  refine pure_ (i := 19) (N := some 38) (v := ?_) (a' := ?_) (bl 26 720895) rfl rfl (any_of HT_.out (by kernel_rfl)) (fun _ _ _ h => h) (Or.inl ⟨by rfl, ?_⟩) ?_ ?_
  rotate_left
  (intro w'; go_simp; with_reducible rfl)
  rotate_left
  (simp only [Act.put, List.setIfInBounds_toArray, List.set_cons_zero, List.set_cons_succ, i64_w, i32_w]; rfl)
  refine take_ (i := 20) (N := some 39) (v := ?_) (a' := ?_) (bl 26 1769471) rfl rfl (take_ofW HT_.out HW_.out (by kernel_rfl)) (fun _ _ _ h => h) (Or.inl ⟨by rfl, ?_⟩) hHeld ?_ ?_
  rotate_left
  (rintro w' ⟨s0, s1, s2, s3, s4, s5, s6, s7, s8, s9, s10, s11⟩; go_simp; with_reducible rfl)
  rotate_left
  (simp only [Act.put, List.setIfInBounds_toArray, List.set_cons_zero, List.set_cons_succ, i64_w, i32_w]; rfl)
  refine take_ (i := 21) (N := some 40) (v := ?_) (a' := ?_) (bl 26 3866623) rfl rfl (take_ofW HT_.out HW_.out (by kernel_rfl)) (fun _ _ _ h => h) (Or.inl ⟨by rfl, ?_⟩) hHeld ?_ ?_
  rotate_left
  (rintro w' ⟨s0, s1, s2, s3, s4, s5, s6, s7, s8, s9, s10, s11⟩; go_simp; with_reducible rfl)
  rotate_left
  (simp only [Act.put, List.setIfInBounds_toArray, List.set_cons_zero, List.set_cons_succ, i64_w, i32_w]; rfl)
  refine one_ (i := 16) (N := some 35) (bl 26 3932159) rfl rfl (one_of HT_.out (by kernel_rfl)) (by decide) (fun K hK => ?_)
  rw [if_pos (by rfl)]
  go_simp
  go_at_call 12
  (with_reducible refine (meet_r a b p q m1 m2 Hhm.out _).mono ?_)
  rintro e w1 ⟨rfl, hb⟩
  replace F : Fr w w1 [(23, #[.int .i32 a, .int .i32 b]), (23, #[.int .i32 c, .int .i32 d]), (23, #[.int .i32 p, .int .i32 q]), (23, #[.int .i32 r, .int .i32 s])] := (by first | exact F.call hb | exact F.drew.call hb | exact (F.drewN _).call hb)
  (try clear p0 q0 p1 q1 p2 q2 p3 q3)
  obtain ⟨p0, q0, -, -⟩ := F.pair0 23 _ _ rfl
  obtain ⟨p1, q1, -, -⟩ := F.pair1 23 _ _ rfl
  obtain ⟨p2, q2, -, -⟩ := F.pair2 23 _ _ rfl
  obtain ⟨p3, q3, -, -⟩ := F.pair3 23 _ _ rfl
  replace K9 : w1.heap[g9]? = some (.cells #[.int .i32 j1, .int .i32 j2] 23 (0, 0)) := blk_below K9 hb
  (try clear K9a K9b)
  have K9a : w1.cell? ⟨g9, 0, none⟩ = some (.int .i32 j1) := (blk_cell K9 0).trans rfl
  have K9b : w1.cell? ⟨g9, 1, none⟩ = some (.int .i32 j2) := (blk_cell K9 1).trans rfl
  replace K10 : w1.heap[g10]? = some (.cells #[.int .i32 l1, .int .i32 l2] 23 (0, 0)) := blk_below K10 hb
  (try clear K10a K10b)
  have K10a : w1.cell? ⟨g10, 0, none⟩ = some (.int .i32 l1) := (blk_cell K10 0).trans rfl
  have K10b : w1.cell? ⟨g10, 1, none⟩ = some (.int .i32 l2) := (blk_cell K10 1).trans rfl
  clear hb
  refine hK.out _ _ ⟨p0, q0, p1, q1, p2, q2, p3, q3, K9a, K9b, K10a, K10b⟩ (fun hHeld => ?_)
  clear hK K
  refine one_ (i := 18) (N := some 37) (bl 26 4194303) rfl rfl (one_of HT_.out (by kernel_rfl)) (by decide) (fun K hK => ?_)
  rw [if_pos (by rfl)]
  go_simp
  go_at_call 20
  (with_reducible refine (A3.out _).mono ?_)
  rintro e w1 ⟨rfl, hb⟩
  replace F : Fr w w1 [(23, #[.int .i32 a, .int .i32 b]), (23, #[.int .i32 c, .int .i32 d]), (23, #[.int .i32 p, .int .i32 q]), (23, #[.int .i32 r, .int .i32 s])] := (by first | exact F.call hb | exact F.drew.call hb | exact (F.drewN _).call hb)
  (try clear p0 q0 p1 q1 p2 q2 p3 q3)
  obtain ⟨p0, q0, -, -⟩ := F.pair0 23 _ _ rfl
  obtain ⟨p1, q1, -, -⟩ := F.pair1 23 _ _ rfl
  obtain ⟨p2, q2, -, -⟩ := F.pair2 23 _ _ rfl
  obtain ⟨p3, q3, -, -⟩ := F.pair3 23 _ _ rfl
  replace K9 : w1.heap[g9]? = some (.cells #[.int .i32 j1, .int .i32 j2] 23 (0, 0)) := blk_below K9 hb
  (try clear K9a K9b)
  have K9a : w1.cell? ⟨g9, 0, none⟩ = some (.int .i32 j1) := (blk_cell K9 0).trans rfl
  have K9b : w1.cell? ⟨g9, 1, none⟩ = some (.int .i32 j2) := (blk_cell K9 1).trans rfl
  replace K10 : w1.heap[g10]? = some (.cells #[.int .i32 l1, .int .i32 l2] 23 (0, 0)) := blk_below K10 hb
  (try clear K10a K10b)
  have K10a : w1.cell? ⟨g10, 0, none⟩ = some (.int .i32 l1) := (blk_cell K10 0).trans rfl
  have K10b : w1.cell? ⟨g10, 1, none⟩ = some (.int .i32 l2) := (blk_cell K10 1).trans rfl
  clear hb
  refine hK.out _ _ ⟨p0, q0, p1, q1, p2, q2, p3, q3, K9a, K9b, K10a, K10b⟩ (fun hHeld => ?_)
  clear hK K
  refine one_ (i := 22) (N := some 41) (bl 26 8388607) rfl rfl (one_of HT_.out (by kernel_rfl)) (by decide) (fun K hK => ?_)
  rw [if_pos (by rfl)]
  go_simp
  go_at_call 20
  (with_reducible refine (A1.out _).mono ?_)
  rintro e w1 ⟨rfl, hb⟩
  replace F : Fr w w1 [(23, #[.int .i32 a, .int .i32 b]), (23, #[.int .i32 c, .int .i32 d]), (23, #[.int .i32 p, .int .i32 q]), (23, #[.int .i32 r, .int .i32 s])] := (by first | exact F.call hb | exact F.drew.call hb | exact (F.drewN _).call hb)
  (try clear p0 q0 p1 q1 p2 q2 p3 q3)
  obtain ⟨p0, q0, -, -⟩ := F.pair0 23 _ _ rfl
  obtain ⟨p1, q1, -, -⟩ := F.pair1 23 _ _ rfl
  obtain ⟨p2, q2, -, -⟩ := F.pair2 23 _ _ rfl
  obtain ⟨p3, q3, -, -⟩ := F.pair3 23 _ _ rfl
  replace K9 : w1.heap[g9]? = some (.cells #[.int .i32 j1, .int .i32 j2] 23 (0, 0)) := blk_below K9 hb
  (try clear K9a K9b)
  have K9a : w1.cell? ⟨g9, 0, none⟩ = some (.int .i32 j1) := (blk_cell K9 0).trans rfl
  have K9b : w1.cell? ⟨g9, 1, none⟩ = some (.int .i32 j2) := (blk_cell K9 1).trans rfl
  replace K10 : w1.heap[g10]? = some (.cells #[.int .i32 l1, .int .i32 l2] 23 (0, 0)) := blk_below K10 hb
  (try clear K10a K10b)
  have K10a : w1.cell? ⟨g10, 0, none⟩ = some (.int .i32 l1) := (blk_cell K10 0).trans rfl
  have K10b : w1.cell? ⟨g10, 1, none⟩ = some (.int .i32 l2) := (blk_cell K10 1).trans rfl
  clear hb
  refine hK.out _ _ ⟨p0, q0, p1, q1, p2, q2, p3, q3, K9a, K9b, K10a, K10b⟩ (fun hHeld => ?_)
  clear hK K
  refine one_ (i := 23) (N := some 42) (bl 26 16777215) rfl rfl (one_of HT_.out (by kernel_rfl)) (by decide) (fun K hK => ?_)
  rw [if_pos (by rfl)]
  go_simp
  go_at_call 14
  (with_reducible refine (within_r x1 x2 z1 z2 _ Hhw2.out _).mono ?_)
  rintro e w1 ⟨rfl, hb⟩
  replace F : Fr w w1 [(23, #[.int .i32 a, .int .i32 b]), (23, #[.int .i32 c, .int .i32 d]), (23, #[.int .i32 p, .int .i32 q]), (23, #[.int .i32 r, .int .i32 s])] := (by first | exact F.call hb | exact F.drew.call hb | exact (F.drewN _).call hb)
  (try clear p0 q0 p1 q1 p2 q2 p3 q3)
  obtain ⟨p0, q0, -, -⟩ := F.pair0 23 _ _ rfl
  obtain ⟨p1, q1, -, -⟩ := F.pair1 23 _ _ rfl
  obtain ⟨p2, q2, -, -⟩ := F.pair2 23 _ _ rfl
  obtain ⟨p3, q3, -, -⟩ := F.pair3 23 _ _ rfl
  replace K9 : w1.heap[g9]? = some (.cells #[.int .i32 j1, .int .i32 j2] 23 (0, 0)) := blk_below K9 hb
  (try clear K9a K9b)
  have K9a : w1.cell? ⟨g9, 0, none⟩ = some (.int .i32 j1) := (blk_cell K9 0).trans rfl
  have K9b : w1.cell? ⟨g9, 1, none⟩ = some (.int .i32 j2) := (blk_cell K9 1).trans rfl
  replace K10 : w1.heap[g10]? = some (.cells #[.int .i32 l1, .int .i32 l2] 23 (0, 0)) := blk_below K10 hb
  (try clear K10a K10b)
  have K10a : w1.cell? ⟨g10, 0, none⟩ = some (.int .i32 l1) := (blk_cell K10 0).trans rfl
  have K10b : w1.cell? ⟨g10, 1, none⟩ = some (.int .i32 l2) := (blk_cell K10 1).trans rfl
  clear hb
  refine hK.out _ _ ⟨p0, q0, p1, q1, p2, q2, p3, q3, K9a, K9b, K10a, K10b⟩ (fun hHeld => ?_)
  clear hK K
  refine pure_ (i := 24) (N := some 43) (v := ?_) (a' := ?_) (bl 26 33554431) rfl rfl (any_of HT_.out (by kernel_rfl)) (fun _ _ _ h => h) (Or.inl ⟨by rfl, ?_⟩) ?_ ?_
  rotate_left
  (intro w'; go_simp; with_reducible rfl)
  rotate_left
  (simp only [Act.put, List.setIfInBounds_toArray, List.set_cons_zero, List.set_cons_succ, i64_w, i32_w]; rfl)
  refine pure_ (i := 25) (N := some 10) (v := ?_) (a' := ?_) (bl 26 67108863) rfl rfl (any_of HT_.out (by kernel_rfl)) (fun _ _ _ h => h) (Or.inl ⟨by rfl, ?_⟩) ?_ ?_
  rotate_left
  (intro w'; go_simp; with_reducible rfl)
  rotate_left
  (simp only [Act.put, List.setIfInBounds_toArray, List.set_cons_zero, List.set_cons_succ, i64_w, i32_w]; rfl)
  refine done_ (by kernel_rfl) ?_
  go_wp2
  go_ret
  exact ⟨by first | rfl | (simp; done), F.below⟩
  

theorem IntervalMonotone_calls (k a b c d p q r s : Int) (ha : -2147483648 ≤ a ∧ a ≤ 2147483647) (hb : -2147483648 ≤ b ∧ b ≤ 2147483647) (hc : -2147483648 ≤ c ∧ c ≤ 2147483647) (hd : -2147483648 ≤ d ∧ d ≤ 2147483647) (hp : -2147483648 ≤ p ∧ p ≤ 2147483647) (hq : -2147483648 ≤ q ∧ q ≤ 2147483647) (hr : -2147483648 ≤ r ∧ r ≤ 2147483647) (hs : -2147483648 ≤ s ∧ s ≤ 2147483647) (w : World) :
    Calls Try.prog 9 #[.int .u8 k, .agg #[.int .i32 a, .int .i32 b], .agg #[.int .i32 c, .int .i32 d], .agg #[.int .i32 p, .int .i32 q], .agg #[.int .i32 r, .int .i32 s]] w fun e w' => e = .returned (.bool true) ∧ Below w.heap.size w w' :=
  have X : In (a, b) := ⟨ha, hb⟩
  have Y : In (c, d) := ⟨hc, hd⟩
  have U : In (p, q) := ⟨hp, hq⟩
  have V : In (r, s) := ⟨hr, hs⟩
  mono_walk k a b c d p q r s _ _ _ _ _ _ _ _ _ _ _ _ rfl rfl rfl (mono_join k a b c d p q r s ha.1 hb.2 hc.1 hd.2 hp.1 hq.2 hr.1 hs.2) (mono_meet k a b c d p q ha.1 hb.2 hc.1 hd.2)
    (Lib.hid (ans k a b c d X Y)) (Lib.hid (ans k (jn a b p q).1 (jn a b p q).2 (jn c d r s).1 (jn c d r s).2 (in_jn X U) (in_jn Y V))) (Lib.hid (ans k (met a b p q).1 (met a b p q).2 c d (in_met X U) Y)) w

end Go.Proofs.Ytcchelfopbgolaa.Monotone
