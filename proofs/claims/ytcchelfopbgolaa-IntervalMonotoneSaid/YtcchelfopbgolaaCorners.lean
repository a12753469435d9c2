/- Contracts of interval.left and interval.corners. Conditions: as each theorem says. -/
import Derived.Test.YtcchelfopbgolaaSmall
import Derived.LoopN
import Derived.Lib.Hide
namespace Go.Proofs.Ytcchelfopbgolaa.Corners
open Go.RowKit Go.Proofs.Ytcchelfopbgolaa.PIntervalSets Go.Proofs.YtcchelfopbgolaaW.PrintWords Go.Proofs.YtcchelfopbgolaaW.PrintLast Go.Proofs.YtcchelfopbgolaaW.PrintMore
open Go.Proofs.YtcchelfopbgolaaPlain Base Blocks Small
set_option linter.unusedSimpArgs false
set_option linter.unusedVariables false


/-- A block of whole numbers reads as a row. -/
theorem C_block (w : World) (g : Nat) (e : TypeId) (k : IntKind) (l : List Int) (hl : l.length ≤ 9223372036854775807) (h : w.heap[g]? = some (.cells (l.map (Value.int k)).toArray e (0, 0))) :
    Kd.C (Kd.int k) w (some ⟨g, 0, none⟩) l.length l := by
  refine ⟨rfl, hl, fun _ => ⟨_, rfl, fun j p hp => ⟨[.int k p], rfl, rfl, fun i u hi => ?_⟩⟩⟩
  have h0 : i = 0 := by
    by_cases e : i = 0
    · exact e
    · rw [List.getElem?_eq_none (by simp; omega)] at hi; cases hi
  subst h0
  have hu : Value.int k p = u := by simpa using hi
  subst hu
  have := blk_cell h j
  rw [show (⟨g, 0, none⟩ : Addr).add (j * (Kd.int k).sz + 0) = ⟨g, j, none⟩ by simp [Addr.add, Kd.int, Kd.scalar]; intro h; exact h.symm]
  rw [this]
  simp [hp]

/-- A row of the call's own has been appended to: the first blocks are as they were. -/
theorem Fr_append {w W w1 : World} {L : List (TypeId × Array Value)} {base : Nat} {ok : Nat → Prop} {v : Value} {xs : List Int} (F : Fr w W L)
    (HO : Kd.R (Kd.int .i64) 2 W base ok v xs) (hL : ∀ (i : Nat) (o : TypeId × Array Value), L[i]? = some o → o.1 ≠ 2) (hb : Below w.heap.size w w1) (hg : W.grownBy w1 v.ownBlock) : Fr w w1 L :=
  ⟨hb, fun i o h => blk_grown (F.blk i o h) hg (Kd.R_ne HO (F.blk i o h) (fun e => hL i o h e.symm))⟩

theorem hull2_c (x y : Int) (g : Nat) (w : World) (h : w.heap[g]? = some (.cells #[.int .i64 x, .int .i64 y] 2 (0, 0))) :
    Calls Try.prog 55 #[.slice (some ⟨g, 0, none⟩) 2 2] w fun e w' => e = .returned (.agg #[.int .i32 (lim (min x y) (max x y)).1, .int .i32 (lim (min x y) (max x y)).2]) ∧ Below w.heap.size w w' :=
  interval_hull.calls 4 (some ⟨g, 0, none⟩) 2 [x, y] _ _ w (C_block w g 2 .i64 [x, y] (by simp) h) (Nat.le_refl _) (hull2_eq x y)
theorem hull4_c (p q r s : Int) (A : Option Addr) (n c : Nat) (w : World) (hn : n = 4) (h : Kd.C (Kd.int .i64) w A 4 [p, q, r, s]) (hc : 4 ≤ c) :
    Calls Try.prog 55 #[.slice A n c] w fun e w' => e = .returned (.agg #[.int .i32 (h4 p q r s).1, .int .i32 (h4 p q r s).2]) ∧ Below w.heap.size w w' := by
  subst hn
  exact interval_hull.calls 6 A c [p, q, r, s] _ _ w h hc (hull4_eq p q r s)

theorem pow_in (y : Int) : (0 : Int) < 2 ^ (y % 32).toNat ∧ (2 : Int) ^ (y % 32).toNat ≤ 2147483648 := by
  have hp : 2 ^ (y % 32).toNat ≤ 2 ^ 31 := Nat.pow_le_pow_right (by decide) (by omega)
  have hq : 0 < 2 ^ (y % 32).toNat := Nat.two_pow_pos _
  have e : (2 : Int) ^ (y % 32).toNat = ((2 ^ (y % 32).toNat : Nat) : Int) := by simp
  rw [e]; omega
theorem scaled (a c : Int) (ha : -2147483648 ≤ a) (ha1 : a ≤ 2147483647) : wrap64 (a * wrap64 (2 ^ (c % 32).toNat)) = a * 2 ^ cnt c := by
  have h := pow_in c
  rw [wrap64_id (n := 2 ^ (c % 32).toNat) (by omega) (by omega), cnt_eq]
  have h2 : (a * 2 ^ (c % 32).toNat).natAbs = a.natAbs * ((2 : Int) ^ (c % 32).toNat).natAbs := Int.natAbs_mul _ _
  have h3 : a.natAbs * ((2 : Int) ^ (c % 32).toNat).natAbs ≤ 2147483648 * 2147483648 := Nat.mul_le_mul (by omega) (by omega)
  exact wrap64_id (by omega) (by omega)

theorem left_c (a b c d : Int) (ha : -2147483648 ≤ a) (ha1 : a ≤ 2147483647) (hb : -2147483648 ≤ b) (hb1 : b ≤ 2147483647) (w : World) :
    Calls Try.prog 38 #[.agg #[.int .i32 a, .int .i32 b], .agg #[.int .i32 c, .int .i32 d]] w fun e w' => e = .returned (.agg #[.int .i32 (lft a b c d).1, .int .i32 (lft a b c d).2]) ∧ Below w.heap.size w w' := by
  by_cases h : c = d
  · subst h
    have e1 : lft a b c c = lim (min (wrap64 (a * wrap64 (2 ^ (c % 32).toNat))) (wrap64 (b * wrap64 (2 ^ (c % 32).toNat)))) (max (wrap64 (a * wrap64 (2 ^ (c % 32).toNat))) (wrap64 (b * wrap64 (2 ^ (c % 32).toNat)))) := by
      unfold lft; rw [if_pos rfl, scaled a c ha ha1, scaled b c hb hb1]
    rw [e1]
    clear e1
    have F4 := Fr.four w 23 #[.int .i32 a, .int .i32 b] 23 #[.int .i32 c, .int .i32 c] 23 #[.int .i32 0, .int .i32 0] 2 #[.int .i64 (wrap64 (a * wrap64 (2 ^ (c % 32).toNat))), .int .i64 (wrap64 (b * wrap64 (2 ^ (c % 32).toNat)))]
    go_enter Try.func38, Try.ntmps38
    go_wp2_with (go_at_call 55; ((with_reducible refine (hull2_c _ _ _ _ (F4.blk3 2 _ rfl)).mono ?_); rintro e w1 ⟨rfl, hb⟩; have F := F4.call hb; obtain ⟨p2, q2, f2, g2⟩ := F.pair2 23 _ _ rfl))
    have F := F.put2 23 _ _ rfl (.int .i32 ((lim (min (wrap64 (a * wrap64 (2 ^ (c % 32).toNat))) (wrap64 (b * wrap64 (2 ^ (c % 32).toNat)))) (max (wrap64 (a * wrap64 (2 ^ (c % 32).toNat))) (wrap64 (b * wrap64 (2 ^ (c % 32).toNat))))).1)) (.int .i32 ((lim (min (wrap64 (a * wrap64 (2 ^ (c % 32).toNat))) (wrap64 (b * wrap64 (2 ^ (c % 32).toNat)))) (max (wrap64 (a * wrap64 (2 ^ (c % 32).toNat))) (wrap64 (b * wrap64 (2 ^ (c % 32).toNat))))).2))
    exact bodyPost_ret (results_cell_row rfl _ _ (w.heap.size + 1 + 1) 23 #[.int .i32 ((lim (min (wrap64 (a * wrap64 (2 ^ (c % 32).toNat))) (wrap64 (b * wrap64 (2 ^ (c % 32).toNat)))) (max (wrap64 (a * wrap64 (2 ^ (c % 32).toNat))) (wrap64 (b * wrap64 (2 ^ (c % 32).toNat))))).1), .int .i32 ((lim (min (wrap64 (a * wrap64 (2 ^ (c % 32).toNat))) (wrap64 (b * wrap64 (2 ^ (c % 32).toNat)))) (max (wrap64 (a * wrap64 (2 ^ (c % 32).toNat))) (wrap64 (b * wrap64 (2 ^ (c % 32).toNat))))).2)] (0, 0) _ rfl (F.blk2 23 _ rfl) Try.underlying23 rfl (by kernel_rfl)) rfl ⟨rfl, F.below⟩
  · have e1 : lft a b c d = (-2147483648, 2147483647) := by unfold lft; rw [if_neg h]
    rw [e1]
    have hb1 : (c == d) = false := beq_eq_false_iff_ne.mpr h
    have F := Fr.three w 23 #[.int .i32 a, .int .i32 b] 23 #[.int .i32 c, .int .i32 d] 23 #[.int .i32 0, .int .i32 0]
    go_enter Try.func38, Try.ntmps38
    go_wp2_with (go_at_call 25; ((with_reducible refine (full_c _).mono ?_); rintro e w1 ⟨rfl, hb⟩; have F : Fr w w1 [(23, #[.int .i32 a, .int .i32 b]), (23, #[.int .i32 c, .int .i32 d]), (23, #[.int .i32 0, .int .i32 0])] := (by first | exact F.call hb | exact (F.drewN _).call hb | exact F.drew.call hb | exact (F.alloc _).call hb); obtain ⟨p0, q0, f0, g0⟩ := F.pair0 23 _ _ rfl; obtain ⟨p1, q1, f1, g1⟩ := F.pair1 23 _ _ rfl; obtain ⟨p2, q2, f2, g2⟩ := F.pair2 23 _ _ rfl))
    have F := F.put2 23 _ _ rfl (.int .i32 (-2147483648)) (.int .i32 2147483647)
    exact bodyPost_ret (results_cell_row rfl _ _ (w.heap.size + 1 + 1) 23 #[.int .i32 (-2147483648), .int .i32 2147483647] (0, 0) _ rfl (F.blk2 23 _ rfl) Try.underlying23 rfl (by kernel_rfl)) rfl ⟨rfl, F.below⟩

set_option maxRecDepth 100000 in
set_option maxHeartbeats 4000000 in
theorem corners30_c (a b c d p q r s : Int) (ha : -2147483648 ≤ a) (ha1 : a ≤ 2147483647) (hb : -2147483648 ≤ b) (hb1 : b ≤ 2147483647) (hc : -2147483648 ≤ c) (hc1 : c ≤ 2147483647) (hd : -2147483648 ≤ d) (hd1 : d ≤ 2147483647)
    (hp : ∀ w, Calls Try.prog 30 #[.int .i64 a, .int .i64 c] w fun e w' => e = .returned (.int .i64 p) ∧ Drawn0 w w')
    (hq : ∀ w, Calls Try.prog 30 #[.int .i64 a, .int .i64 d] w fun e w' => e = .returned (.int .i64 q) ∧ Drawn0 w w')
    (hr : ∀ w, Calls Try.prog 30 #[.int .i64 b, .int .i64 c] w fun e w' => e = .returned (.int .i64 r) ∧ Drawn0 w w')
    (hs : ∀ w, Calls Try.prog 30 #[.int .i64 b, .int .i64 d] w fun e w' => e = .returned (.int .i64 s) ∧ Drawn0 w w')
    (w : World) : Calls Try.prog 29 #[.agg #[.int .i32 a, .int .i32 b], .agg #[.int .i32 c, .int .i32 d], .func (Fn.func 30) #[] #[]] w fun e w' => e = .returned (.agg #[.int .i32 (h4 p q r s).1, .int .i32 (h4 p q r s).2]) ∧ Below w.heap.size w w' := by
  have Hp := Lib.hid hp
  have Hq := Lib.hid hq
  have Hr := Lib.hid hr
  have Hs := Lib.hid hs
  clear hp hq hr hs
  have i00 : ∀ w, (Instr.index 64 (.agg #[.int .i32 a, .int .i32 b]) (.int .i64 0)).run Try.prog w = .ok (.int .i32 a) w := fun _ => by kernel_rfl
  have i01 : ∀ w, (Instr.index 64 (.agg #[.int .i32 a, .int .i32 b]) (.int .i64 1)).run Try.prog w = .ok (.int .i32 b) w := fun _ => by kernel_rfl
  have i10 : ∀ w, (Instr.index 64 (.agg #[.int .i32 c, .int .i32 d]) (.int .i64 0)).run Try.prog w = .ok (.int .i32 c) w := fun _ => by kernel_rfl
  have i11 : ∀ w, (Instr.index 64 (.agg #[.int .i32 c, .int .i32 d]) (.int .i64 1)).run Try.prog w = .ok (.int .i32 d) w := fun _ => by kernel_rfl
  have F := Fr.three w 23 #[.int .i32 a, .int .i32 b] 23 #[.int .i32 c, .int .i32 d] 23 #[.int .i32 0, .int .i32 0]
  have HO : Kd.R (Kd.int .i64) 2 (((w.alloc (.cells #[.int .i32 a, .int .i32 b] 23 (0, 0))).alloc (.cells #[.int .i32 c, .int .i32 d] 23 (0, 0))).alloc (.cells #[.int .i32 0, .int .i32 0] 23 (0, 0))) w.heap.size (fun _ => True) (.slice none 0 0) [] := Kd.R_nil _ _ _ _ _
  have hL : ∀ (i : Nat) (o : TypeId × Array Value), ([(23, #[.int .i32 a, .int .i32 b]), (23, #[.int .i32 c, .int .i32 d]), (23, #[.int .i32 0, .int .i32 0])] : List (TypeId × Array Value))[i]? = some o → o.1 ≠ 2 := by
    intro i o h
    match i, h with
    | 0, h => simp at h; subst h; show 23 ≠ 2; decide
    | 1, h => simp at h; subst h; show 23 ≠ 2; decide
    | 2, h => simp at h; subst h; show 23 ≠ 2; decide
    | i + 3, h => simp at h
  go_enter Try.func29, Try.ntmps29
  go_wp2
  refine wp_loop_rounds 3 ?_
  rw [rounds_succ]
  go_wp2
  refine wp_loop_rounds 3 ?_
  rw [rounds_succ]
  go_wp2_with (first | (go_at_call 30; ((with_reducible refine (Hp.out _).mono ?_); rintro e w1 ⟨rfl, ⟨nd, rfl⟩⟩; have F := F.drewN nd; have HO := Kd.R_drewN HO nd)) | ((with_reducible refine gate_dst (N := 35) rfl ?_); refine Kd.R_lit (Kd.int .i64) _ 2 ?hg (N := 35) ?hd (xs := [p]) (inner := [.int .i64 p]) (ok := fun _ => True) (okp := fun _ => True) ?hr ?hp (fun _ hk => hk) trivial (Below.refl _ _) (Nat.le_refl _) (by simp) ?_; (case hd => rfl); (case hg => rfl); (case hr => first | (go_simp; done) | (go_simp; rfl)); (case hp => exact (Reps.one (show Kd.M (Kd.int .i64) _ _ _ p [.int .i64 p] from rfl) (Reps.none _ _))); intro vl w2 hl hb hg_ hn_; clear hg_ hn_; obtain ⟨Al, cl, rfl⟩ := Kd.R_slice hl; have F := F.call hb; have HO := Kd.R_below HO hb) | (at_builtin; refine Kd.R_append_row (w0 := w) (Value.int .i64) 0 w.heap.size rfl _ _ 56 2 (.int .i64 0) 8 rfl Try.underlying56 info2 rfl (by decide) (.slice none 0 0) [] [p] Al _ cl (fun _ => True) rfl rfl (fun _ _ => trivial) HO (Kd.R_reads' hl).2.2 F.below F.base (by simp) ?_; intro vv w3 HO1 hb1 hg1 hn1; clear hn1; have F1 := Fr_append F HO hL hb1 hg1; have F := F1; have HO := HO1; obtain ⟨p0, q0, f0, g0⟩ := F.pair0 23 _ _ rfl; obtain ⟨p1, q1, f1, g1⟩ := F.pair1 23 _ _ rfl; obtain ⟨p2, q2, f2, g2⟩ := F.pair2 23 _ _ rfl))
  rw [rounds_succ]
  go_wp2_with (first | (go_at_call 30; ((with_reducible refine (Hq.out _).mono ?_); rintro e w1 ⟨rfl, ⟨nd, rfl⟩⟩; have F := F.drewN nd; have HO := Kd.R_drewN HO nd)) | ((with_reducible refine gate_dst (N := 35) rfl ?_); refine Kd.R_lit (Kd.int .i64) _ 2 ?hg (N := 35) ?hd (xs := [q]) (inner := [.int .i64 q]) (ok := fun _ => True) (okp := fun _ => True) ?hr ?hp (fun _ hk => hk) trivial (Below.refl _ _) (Nat.le_refl _) (by simp) ?_; (case hd => rfl); (case hg => rfl); (case hr => first | (go_simp; done) | (go_simp; rfl)); (case hp => exact (Reps.one (show Kd.M (Kd.int .i64) _ _ _ q [.int .i64 q] from rfl) (Reps.none _ _))); intro vl w2 hl hb hg_ hn_; clear hg_ hn_; obtain ⟨Al, cl, rfl⟩ := Kd.R_slice hl; have F := F.call hb; have HO := Kd.R_below HO hb) | (at_builtin; refine Kd.R_append_row (w0 := w) (Value.int .i64) 0 w.heap.size rfl _ _ 56 2 (.int .i64 0) 8 rfl Try.underlying56 info2 rfl (by decide) (vv) [p] [q] Al _ cl (fun _ => True) rfl rfl (fun _ _ => trivial) HO (Kd.R_reads' hl).2.2 F.below F.base (by simp) ?_; intro vv w3 HO1 hb1 hg1 hn1; clear hn1; have F1 := Fr_append F HO hL hb1 hg1; have F := F1; have HO := HO1; obtain ⟨p0, q0, f0, g0⟩ := F.pair0 23 _ _ rfl; obtain ⟨p1, q1, f1, g1⟩ := F.pair1 23 _ _ rfl; obtain ⟨p2, q2, f2, g2⟩ := F.pair2 23 _ _ rfl))
  rw [rounds_succ]
  go_wp2
  rw [rounds_succ]
  go_wp2
  refine wp_loop_rounds 3 ?_
  rw [rounds_succ]
  go_wp2_with (first | (go_at_call 30; ((with_reducible refine (Hr.out _).mono ?_); rintro e w1 ⟨rfl, ⟨nd, rfl⟩⟩; have F := F.drewN nd; have HO := Kd.R_drewN HO nd)) | ((with_reducible refine gate_dst (N := 35) rfl ?_); refine Kd.R_lit (Kd.int .i64) _ 2 ?hg (N := 35) ?hd (xs := [r]) (inner := [.int .i64 r]) (ok := fun _ => True) (okp := fun _ => True) ?hr ?hp (fun _ hk => hk) trivial (Below.refl _ _) (Nat.le_refl _) (by simp) ?_; (case hd => rfl); (case hg => rfl); (case hr => first | (go_simp; done) | (go_simp; rfl)); (case hp => exact (Reps.one (show Kd.M (Kd.int .i64) _ _ _ r [.int .i64 r] from rfl) (Reps.none _ _))); intro vl w2 hl hb hg_ hn_; clear hg_ hn_; obtain ⟨Al, cl, rfl⟩ := Kd.R_slice hl; have F := F.call hb; have HO := Kd.R_below HO hb) | (at_builtin; refine Kd.R_append_row (w0 := w) (Value.int .i64) 0 w.heap.size rfl _ _ 56 2 (.int .i64 0) 8 rfl Try.underlying56 info2 rfl (by decide) (vv) [p, q] [r] Al _ cl (fun _ => True) rfl rfl (fun _ _ => trivial) HO (Kd.R_reads' hl).2.2 F.below F.base (by simp) ?_; intro vv w3 HO1 hb1 hg1 hn1; clear hn1; have F1 := Fr_append F HO hL hb1 hg1; have F := F1; have HO := HO1; obtain ⟨p0, q0, f0, g0⟩ := F.pair0 23 _ _ rfl; obtain ⟨p1, q1, f1, g1⟩ := F.pair1 23 _ _ rfl; obtain ⟨p2, q2, f2, g2⟩ := F.pair2 23 _ _ rfl))
  rw [rounds_succ]
  go_wp2_with (first | (go_at_call 30; ((with_reducible refine (Hs.out _).mono ?_); rintro e w1 ⟨rfl, ⟨nd, rfl⟩⟩; have F := F.drewN nd; have HO := Kd.R_drewN HO nd)) | ((with_reducible refine gate_dst (N := 35) rfl ?_); refine Kd.R_lit (Kd.int .i64) _ 2 ?hg (N := 35) ?hd (xs := [s]) (inner := [.int .i64 s]) (ok := fun _ => True) (okp := fun _ => True) ?hr ?hp (fun _ hk => hk) trivial (Below.refl _ _) (Nat.le_refl _) (by simp) ?_; (case hd => rfl); (case hg => rfl); (case hr => first | (go_simp; done) | (go_simp; rfl)); (case hp => exact (Reps.one (show Kd.M (Kd.int .i64) _ _ _ s [.int .i64 s] from rfl) (Reps.none _ _))); intro vl w2 hl hb hg_ hn_; clear hg_ hn_; obtain ⟨Al, cl, rfl⟩ := Kd.R_slice hl; have F := F.call hb; have HO := Kd.R_below HO hb) | (at_builtin; refine Kd.R_append_row (w0 := w) (Value.int .i64) 0 w.heap.size rfl _ _ 56 2 (.int .i64 0) 8 rfl Try.underlying56 info2 rfl (by decide) (vv) [p, q, r] [s] Al _ cl (fun _ => True) rfl rfl (fun _ _ => trivial) HO (Kd.R_reads' hl).2.2 F.below F.base (by simp) ?_; intro vv w3 HO1 hb1 hg1 hn1; clear hn1; have F1 := Fr_append F HO hL hb1 hg1; have F := F1; have HO := HO1; obtain ⟨p0, q0, f0, g0⟩ := F.pair0 23 _ _ rfl; obtain ⟨p1, q1, f1, g1⟩ := F.pair1 23 _ _ rfl; obtain ⟨p2, q2, f2, g2⟩ := F.pair2 23 _ _ rfl))
  rw [rounds_succ]
  go_wp2
  rw [rounds_succ]
  obtain ⟨A4, c4, rfl⟩ := Kd.R_slice HO
  have HC : Kd.C (Kd.int .i64) w3 A4 4 [p, q, r, s] := (Kd.R_reads' HO).2.2
  have hc4 : 4 ≤ c4 := (Kd.R_reads' HO).2.1
  go_wp2_with (go_at_call 55; ((with_reducible refine (hull4_c p q r s A4 _ c4 _ rfl HC hc4).mono ?_); rintro e w1 ⟨rfl, hb⟩; have F := F.call hb; obtain ⟨p0, q0, f0, g0⟩ := F.pair0 23 _ _ rfl; obtain ⟨p1, q1, f1, g1⟩ := F.pair1 23 _ _ rfl; obtain ⟨p2, q2, f2, g2⟩ := F.pair2 23 _ _ rfl))
  have F := F.put2 23 _ _ rfl (.int .i32 ((h4 p q r s).1)) (.int .i32 ((h4 p q r s).2))
  exact bodyPost_ret (results_cell_row rfl _ _ (w.heap.size + 1 + 1) 23 #[.int .i32 ((h4 p q r s).1), .int .i32 ((h4 p q r s).2)] (0, 0) _ rfl (F.blk2 23 _ rfl) Try.underlying23 rfl (by kernel_rfl)) rfl ⟨rfl, F.below⟩

set_option maxRecDepth 100000 in
set_option maxHeartbeats 4000000 in
theorem corners31_c (a b c d p q r s : Int) (ha : -2147483648 ≤ a) (ha1 : a ≤ 2147483647) (hb : -2147483648 ≤ b) (hb1 : b ≤ 2147483647) (hc : -2147483648 ≤ c) (hc1 : c ≤ 2147483647) (hd : -2147483648 ≤ d) (hd1 : d ≤ 2147483647)
    (hp : ∀ w, Calls Try.prog 31 #[.int .i64 a, .int .i64 c] w fun e w' => e = .returned (.int .i64 p) ∧ Drawn0 w w')
    (hq : ∀ w, Calls Try.prog 31 #[.int .i64 a, .int .i64 d] w fun e w' => e = .returned (.int .i64 q) ∧ Drawn0 w w')
    (hr : ∀ w, Calls Try.prog 31 #[.int .i64 b, .int .i64 c] w fun e w' => e = .returned (.int .i64 r) ∧ Drawn0 w w')
    (hs : ∀ w, Calls Try.prog 31 #[.int .i64 b, .int .i64 d] w fun e w' => e = .returned (.int .i64 s) ∧ Drawn0 w w')
    (w : World) : Calls Try.prog 29 #[.agg #[.int .i32 a, .int .i32 b], .agg #[.int .i32 c, .int .i32 d], .func (Fn.func 31) #[] #[]] w fun e w' => e = .returned (.agg #[.int .i32 (h4 p q r s).1, .int .i32 (h4 p q r s).2]) ∧ Below w.heap.size w w' := by
  have Hp := Lib.hid hp
  have Hq := Lib.hid hq
  have Hr := Lib.hid hr
  have Hs := Lib.hid hs
  clear hp hq hr hs
  have i00 : ∀ w, (Instr.index 64 (.agg #[.int .i32 a, .int .i32 b]) (.int .i64 0)).run Try.prog w = .ok (.int .i32 a) w := fun _ => by kernel_rfl
  have i01 : ∀ w, (Instr.index 64 (.agg #[.int .i32 a, .int .i32 b]) (.int .i64 1)).run Try.prog w = .ok (.int .i32 b) w := fun _ => by kernel_rfl
  have i10 : ∀ w, (Instr.index 64 (.agg #[.int .i32 c, .int .i32 d]) (.int .i64 0)).run Try.prog w = .ok (.int .i32 c) w := fun _ => by kernel_rfl
  have i11 : ∀ w, (Instr.index 64 (.agg #[.int .i32 c, .int .i32 d]) (.int .i64 1)).run Try.prog w = .ok (.int .i32 d) w := fun _ => by kernel_rfl
  have F := Fr.three w 23 #[.int .i32 a, .int .i32 b] 23 #[.int .i32 c, .int .i32 d] 23 #[.int .i32 0, .int .i32 0]
  have HO : Kd.R (Kd.int .i64) 2 (((w.alloc (.cells #[.int .i32 a, .int .i32 b] 23 (0, 0))).alloc (.cells #[.int .i32 c, .int .i32 d] 23 (0, 0))).alloc (.cells #[.int .i32 0, .int .i32 0] 23 (0, 0))) w.heap.size (fun _ => True) (.slice none 0 0) [] := Kd.R_nil _ _ _ _ _
  have hL : ∀ (i : Nat) (o : TypeId × Array Value), ([(23, #[.int .i32 a, .int .i32 b]), (23, #[.int .i32 c, .int .i32 d]), (23, #[.int .i32 0, .int .i32 0])] : List (TypeId × Array Value))[i]? = some o → o.1 ≠ 2 := by
    intro i o h
    match i, h with
    | 0, h => simp at h; subst h; show 23 ≠ 2; decide
    | 1, h => simp at h; subst h; show 23 ≠ 2; decide
    | 2, h => simp at h; subst h; show 23 ≠ 2; decide
    | i + 3, h => simp at h
  go_enter Try.func29, Try.ntmps29
  go_wp2
  refine wp_loop_rounds 3 ?_
  rw [rounds_succ]
  go_wp2
  refine wp_loop_rounds 3 ?_
  rw [rounds_succ]
  go_wp2_with (first | (go_at_call 31; ((with_reducible refine (Hp.out _).mono ?_); rintro e w1 ⟨rfl, ⟨nd, rfl⟩⟩; have F := F.drewN nd; have HO := Kd.R_drewN HO nd)) | ((with_reducible refine gate_dst (N := 35) rfl ?_); refine Kd.R_lit (Kd.int .i64) _ 2 ?hg (N := 35) ?hd (xs := [p]) (inner := [.int .i64 p]) (ok := fun _ => True) (okp := fun _ => True) ?hr ?hp (fun _ hk => hk) trivial (Below.refl _ _) (Nat.le_refl _) (by simp) ?_; (case hd => rfl); (case hg => rfl); (case hr => first | (go_simp; done) | (go_simp; rfl)); (case hp => exact (Reps.one (show Kd.M (Kd.int .i64) _ _ _ p [.int .i64 p] from rfl) (Reps.none _ _))); intro vl w2 hl hb hg_ hn_; clear hg_ hn_; obtain ⟨Al, cl, rfl⟩ := Kd.R_slice hl; have F := F.call hb; have HO := Kd.R_below HO hb) | (at_builtin; refine Kd.R_append_row (w0 := w) (Value.int .i64) 0 w.heap.size rfl _ _ 56 2 (.int .i64 0) 8 rfl Try.underlying56 info2 rfl (by decide) (.slice none 0 0) [] [p] Al _ cl (fun _ => True) rfl rfl (fun _ _ => trivial) HO (Kd.R_reads' hl).2.2 F.below F.base (by simp) ?_; intro vv w3 HO1 hb1 hg1 hn1; clear hn1; have F1 := Fr_append F HO hL hb1 hg1; have F := F1; have HO := HO1; obtain ⟨p0, q0, f0, g0⟩ := F.pair0 23 _ _ rfl; obtain ⟨p1, q1, f1, g1⟩ := F.pair1 23 _ _ rfl; obtain ⟨p2, q2, f2, g2⟩ := F.pair2 23 _ _ rfl))
  rw [rounds_succ]
  go_wp2_with (first | (go_at_call 31; ((with_reducible refine (Hq.out _).mono ?_); rintro e w1 ⟨rfl, ⟨nd, rfl⟩⟩; have F := F.drewN nd; have HO := Kd.R_drewN HO nd)) | ((with_reducible refine gate_dst (N := 35) rfl ?_); refine Kd.R_lit (Kd.int .i64) _ 2 ?hg (N := 35) ?hd (xs := [q]) (inner := [.int .i64 q]) (ok := fun _ => True) (okp := fun _ => True) ?hr ?hp (fun _ hk => hk) trivial (Below.refl _ _) (Nat.le_refl _) (by simp) ?_; (case hd => rfl); (case hg => rfl); (case hr => first | (go_simp; done) | (go_simp; rfl)); (case hp => exact (Reps.one (show Kd.M (Kd.int .i64) _ _ _ q [.int .i64 q] from rfl) (Reps.none _ _))); intro vl w2 hl hb hg_ hn_; clear hg_ hn_; obtain ⟨Al, cl, rfl⟩ := Kd.R_slice hl; have F := F.call hb; have HO := Kd.R_below HO hb) | (at_builtin; refine Kd.R_append_row (w0 := w) (Value.int .i64) 0 w.heap.size rfl _ _ 56 2 (.int .i64 0) 8 rfl Try.underlying56 info2 rfl (by decide) (vv) [p] [q] Al _ cl (fun _ => True) rfl rfl (fun _ _ => trivial) HO (Kd.R_reads' hl).2.2 F.below F.base (by simp) ?_; intro vv w3 HO1 hb1 hg1 hn1; clear hn1; have F1 := Fr_append F HO hL hb1 hg1; have F := F1; have HO := HO1; obtain ⟨p0, q0, f0, g0⟩ := F.pair0 23 _ _ rfl; obtain ⟨p1, q1, f1, g1⟩ := F.pair1 23 _ _ rfl; obtain ⟨p2, q2, f2, g2⟩ := F.pair2 23 _ _ rfl))
  rw [rounds_succ]
  go_wp2
  rw [rounds_succ]
  go_wp2
  refine wp_loop_rounds 3 ?_
  rw [rounds_succ]
  go_wp2_with (first | (go_at_call 31; ((with_reducible refine (Hr.out _).mono ?_); rintro e w1 ⟨rfl, ⟨nd, rfl⟩⟩; have F := F.drewN nd; have HO := Kd.R_drewN HO nd)) | ((with_reducible refine gate_dst (N := 35) rfl ?_); refine Kd.R_lit (Kd.int .i64) _ 2 ?hg (N := 35) ?hd (xs := [r]) (inner := [.int .i64 r]) (ok := fun _ => True) (okp := fun _ => True) ?hr ?hp (fun _ hk => hk) trivial (Below.refl _ _) (Nat.le_refl _) (by simp) ?_; (case hd => rfl); (case hg => rfl); (case hr => first | (go_simp; done) | (go_simp; rfl)); (case hp => exact (Reps.one (show Kd.M (Kd.int .i64) _ _ _ r [.int .i64 r] from rfl) (Reps.none _ _))); intro vl w2 hl hb hg_ hn_; clear hg_ hn_; obtain ⟨Al, cl, rfl⟩ := Kd.R_slice hl; have F := F.call hb; have HO := Kd.R_below HO hb) | (at_builtin; refine Kd.R_append_row (w0 := w) (Value.int .i64) 0 w.heap.size rfl _ _ 56 2 (.int .i64 0) 8 rfl Try.underlying56 info2 rfl (by decide) (vv) [p, q] [r] Al _ cl (fun _ => True) rfl rfl (fun _ _ => trivial) HO (Kd.R_reads' hl).2.2 F.below F.base (by simp) ?_; intro vv w3 HO1 hb1 hg1 hn1; clear hn1; have F1 := Fr_append F HO hL hb1 hg1; have F := F1; have HO := HO1; obtain ⟨p0, q0, f0, g0⟩ := F.pair0 23 _ _ rfl; obtain ⟨p1, q1, f1, g1⟩ := F.pair1 23 _ _ rfl; obtain ⟨p2, q2, f2, g2⟩ := F.pair2 23 _ _ rfl))
  rw [rounds_succ]
  go_wp2_with (first | (go_at_call 31; ((with_reducible refine (Hs.out _).mono ?_); rintro e w1 ⟨rfl, ⟨nd, rfl⟩⟩; have F := F.drewN nd; have HO := Kd.R_drewN HO nd)) | ((with_reducible refine gate_dst (N := 35) rfl ?_); refine Kd.R_lit (Kd.int .i64) _ 2 ?hg (N := 35) ?hd (xs := [s]) (inner := [.int .i64 s]) (ok := fun _ => True) (okp := fun _ => True) ?hr ?hp (fun _ hk => hk) trivial (Below.refl _ _) (Nat.le_refl _) (by simp) ?_; (case hd => rfl); (case hg => rfl); (case hr => first | (go_simp; done) | (go_simp; rfl)); (case hp => exact (Reps.one (show Kd.M (Kd.int .i64) _ _ _ s [.int .i64 s] from rfl) (Reps.none _ _))); intro vl w2 hl hb hg_ hn_; clear hg_ hn_; obtain ⟨Al, cl, rfl⟩ := Kd.R_slice hl; have F := F.call hb; have HO := Kd.R_below HO hb) | (at_builtin; refine Kd.R_append_row (w0 := w) (Value.int .i64) 0 w.heap.size rfl _ _ 56 2 (.int .i64 0) 8 rfl Try.underlying56 info2 rfl (by decide) (vv) [p, q, r] [s] Al _ cl (fun _ => True) rfl rfl (fun _ _ => trivial) HO (Kd.R_reads' hl).2.2 F.below F.base (by simp) ?_; intro vv w3 HO1 hb1 hg1 hn1; clear hn1; have F1 := Fr_append F HO hL hb1 hg1; have F := F1; have HO := HO1; obtain ⟨p0, q0, f0, g0⟩ := F.pair0 23 _ _ rfl; obtain ⟨p1, q1, f1, g1⟩ := F.pair1 23 _ _ rfl; obtain ⟨p2, q2, f2, g2⟩ := F.pair2 23 _ _ rfl))
  rw [rounds_succ]
  go_wp2
  rw [rounds_succ]
  obtain ⟨A4, c4, rfl⟩ := Kd.R_slice HO
  have HC : Kd.C (Kd.int .i64) w3 A4 4 [p, q, r, s] := (Kd.R_reads' HO).2.2
  have hc4 : 4 ≤ c4 := (Kd.R_reads' HO).2.1
  go_wp2_with (go_at_call 55; ((with_reducible refine (hull4_c p q r s A4 _ c4 _ rfl HC hc4).mono ?_); rintro e w1 ⟨rfl, hb⟩; have F := F.call hb; obtain ⟨p0, q0, f0, g0⟩ := F.pair0 23 _ _ rfl; obtain ⟨p1, q1, f1, g1⟩ := F.pair1 23 _ _ rfl; obtain ⟨p2, q2, f2, g2⟩ := F.pair2 23 _ _ rfl))
  have F := F.put2 23 _ _ rfl (.int .i32 ((h4 p q r s).1)) (.int .i32 ((h4 p q r s).2))
  exact bodyPost_ret (results_cell_row rfl _ _ (w.heap.size + 1 + 1) 23 #[.int .i32 ((h4 p q r s).1), .int .i32 ((h4 p q r s).2)] (0, 0) _ rfl (F.blk2 23 _ rfl) Try.underlying23 rfl (by kernel_rfl)) rfl ⟨rfl, F.below⟩

set_option maxRecDepth 100000 in
set_option maxHeartbeats 4000000 in
theorem corners32_c (a b c d p q r s : Int) (ha : -2147483648 ≤ a) (ha1 : a ≤ 2147483647) (hb : -2147483648 ≤ b) (hb1 : b ≤ 2147483647) (hc : -2147483648 ≤ c) (hc1 : c ≤ 2147483647) (hd : -2147483648 ≤ d) (hd1 : d ≤ 2147483647)
    (hp : ∀ w, Calls Try.prog 32 #[.int .i64 a, .int .i64 c] w fun e w' => e = .returned (.int .i64 p) ∧ Drawn0 w w')
    (hq : ∀ w, Calls Try.prog 32 #[.int .i64 a, .int .i64 d] w fun e w' => e = .returned (.int .i64 q) ∧ Drawn0 w w')
    (hr : ∀ w, Calls Try.prog 32 #[.int .i64 b, .int .i64 c] w fun e w' => e = .returned (.int .i64 r) ∧ Drawn0 w w')
    (hs : ∀ w, Calls Try.prog 32 #[.int .i64 b, .int .i64 d] w fun e w' => e = .returned (.int .i64 s) ∧ Drawn0 w w')
    (w : World) : Calls Try.prog 29 #[.agg #[.int .i32 a, .int .i32 b], .agg #[.int .i32 c, .int .i32 d], .func (Fn.func 32) #[] #[]] w fun e w' => e = .returned (.agg #[.int .i32 (h4 p q r s).1, .int .i32 (h4 p q r s).2]) ∧ Below w.heap.size w w' := by
  have Hp := Lib.hid hp
  have Hq := Lib.hid hq
  have Hr := Lib.hid hr
  have Hs := Lib.hid hs
  clear hp hq hr hs
  have i00 : ∀ w, (Instr.index 64 (.agg #[.int .i32 a, .int .i32 b]) (.int .i64 0)).run Try.prog w = .ok (.int .i32 a) w := fun _ => by kernel_rfl
  have i01 : ∀ w, (Instr.index 64 (.agg #[.int .i32 a, .int .i32 b]) (.int .i64 1)).run Try.prog w = .ok (.int .i32 b) w := fun _ => by kernel_rfl
  have i10 : ∀ w, (Instr.index 64 (.agg #[.int .i32 c, .int .i32 d]) (.int .i64 0)).run Try.prog w = .ok (.int .i32 c) w := fun _ => by kernel_rfl
  have i11 : ∀ w, (Instr.index 64 (.agg #[.int .i32 c, .int .i32 d]) (.int .i64 1)).run Try.prog w = .ok (.int .i32 d) w := fun _ => by kernel_rfl
  have F := Fr.three w 23 #[.int .i32 a, .int .i32 b] 23 #[.int .i32 c, .int .i32 d] 23 #[.int .i32 0, .int .i32 0]
  have HO : Kd.R (Kd.int .i64) 2 (((w.alloc (.cells #[.int .i32 a, .int .i32 b] 23 (0, 0))).alloc (.cells #[.int .i32 c, .int .i32 d] 23 (0, 0))).alloc (.cells #[.int .i32 0, .int .i32 0] 23 (0, 0))) w.heap.size (fun _ => True) (.slice none 0 0) [] := Kd.R_nil _ _ _ _ _
  have hL : ∀ (i : Nat) (o : TypeId × Array Value), ([(23, #[.int .i32 a, .int .i32 b]), (23, #[.int .i32 c, .int .i32 d]), (23, #[.int .i32 0, .int .i32 0])] : List (TypeId × Array Value))[i]? = some o → o.1 ≠ 2 := by
    intro i o h
    match i, h with
    | 0, h => simp at h; subst h; show 23 ≠ 2; decide
    | 1, h => simp at h; subst h; show 23 ≠ 2; decide
    | 2, h => simp at h; subst h; show 23 ≠ 2; decide
    | i + 3, h => simp at h
  go_enter Try.func29, Try.ntmps29
  go_wp2
  refine wp_loop_rounds 3 ?_
  rw [rounds_succ]
  go_wp2
  refine wp_loop_rounds 3 ?_
  rw [rounds_succ]
  go_wp2_with (first | (go_at_call 32; ((with_reducible refine (Hp.out _).mono ?_); rintro e w1 ⟨rfl, ⟨nd, rfl⟩⟩; have F := F.drewN nd; have HO := Kd.R_drewN HO nd)) | ((with_reducible refine gate_dst (N := 35) rfl ?_); refine Kd.R_lit (Kd.int .i64) _ 2 ?hg (N := 35) ?hd (xs := [p]) (inner := [.int .i64 p]) (ok := fun _ => True) (okp := fun _ => True) ?hr ?hp (fun _ hk => hk) trivial (Below.refl _ _) (Nat.le_refl _) (by simp) ?_; (case hd => rfl); (case hg => rfl); (case hr => first | (go_simp; done) | (go_simp; rfl)); (case hp => exact (Reps.one (show Kd.M (Kd.int .i64) _ _ _ p [.int .i64 p] from rfl) (Reps.none _ _))); intro vl w2 hl hb hg_ hn_; clear hg_ hn_; obtain ⟨Al, cl, rfl⟩ := Kd.R_slice hl; have F := F.call hb; have HO := Kd.R_below HO hb) | (at_builtin; refine Kd.R_append_row (w0 := w) (Value.int .i64) 0 w.heap.size rfl _ _ 56 2 (.int .i64 0) 8 rfl Try.underlying56 info2 rfl (by decide) (.slice none 0 0) [] [p] Al _ cl (fun _ => True) rfl rfl (fun _ _ => trivial) HO (Kd.R_reads' hl).2.2 F.below F.base (by simp) ?_; intro vv w3 HO1 hb1 hg1 hn1; clear hn1; have F1 := Fr_append F HO hL hb1 hg1; have F := F1; have HO := HO1; obtain ⟨p0, q0, f0, g0⟩ := F.pair0 23 _ _ rfl; obtain ⟨p1, q1, f1, g1⟩ := F.pair1 23 _ _ rfl; obtain ⟨p2, q2, f2, g2⟩ := F.pair2 23 _ _ rfl))
  rw [rounds_succ]
  go_wp2_with (first | (go_at_call 32; ((with_reducible refine (Hq.out _).mono ?_); rintro e w1 ⟨rfl, ⟨nd, rfl⟩⟩; have F := F.drewN nd; have HO := Kd.R_drewN HO nd)) | ((with_reducible refine gate_dst (N := 35) rfl ?_); refine Kd.R_lit (Kd.int .i64) _ 2 ?hg (N := 35) ?hd (xs := [q]) (inner := [.int .i64 q]) (ok := fun _ => True) (okp := fun _ => True) ?hr ?hp (fun _ hk => hk) trivial (Below.refl _ _) (Nat.le_refl _) (by simp) ?_; (case hd => rfl); (case hg => rfl); (case hr => first | (go_simp; done) | (go_simp; rfl)); (case hp => exact (Reps.one (show Kd.M (Kd.int .i64) _ _ _ q [.int .i64 q] from rfl) (Reps.none _ _))); intro vl w2 hl hb hg_ hn_; clear hg_ hn_; obtain ⟨Al, cl, rfl⟩ := Kd.R_slice hl; have F := F.call hb; have HO := Kd.R_below HO hb) | (at_builtin; refine Kd.R_append_row (w0 := w) (Value.int .i64) 0 w.heap.size rfl _ _ 56 2 (.int .i64 0) 8 rfl Try.underlying56 info2 rfl (by decide) (vv) [p] [q] Al _ cl (fun _ => True) rfl rfl (fun _ _ => trivial) HO (Kd.R_reads' hl).2.2 F.below F.base (by simp) ?_; intro vv w3 HO1 hb1 hg1 hn1; clear hn1; have F1 := Fr_append F HO hL hb1 hg1; have F := F1; have HO := HO1; obtain ⟨p0, q0, f0, g0⟩ := F.pair0 23 _ _ rfl; obtain ⟨p1, q1, f1, g1⟩ := F.pair1 23 _ _ rfl; obtain ⟨p2, q2, f2, g2⟩ := F.pair2 23 _ _ rfl))
  rw [rounds_succ]
  go_wp2
  rw [rounds_succ]
  go_wp2
  refine wp_loop_rounds 3 ?_
  rw [rounds_succ]
  go_wp2_with (first | (go_at_call 32; ((with_reducible refine (Hr.out _).mono ?_); rintro e w1 ⟨rfl, ⟨nd, rfl⟩⟩; have F := F.drewN nd; have HO := Kd.R_drewN HO nd)) | ((with_reducible refine gate_dst (N := 35) rfl ?_); refine Kd.R_lit (Kd.int .i64) _ 2 ?hg (N := 35) ?hd (xs := [r]) (inner := [.int .i64 r]) (ok := fun _ => True) (okp := fun _ => True) ?hr ?hp (fun _ hk => hk) trivial (Below.refl _ _) (Nat.le_refl _) (by simp) ?_; (case hd => rfl); (case hg => rfl); (case hr => first | (go_simp; done) | (go_simp; rfl)); (case hp => exact (Reps.one (show Kd.M (Kd.int .i64) _ _ _ r [.int .i64 r] from rfl) (Reps.none _ _))); intro vl w2 hl hb hg_ hn_; clear hg_ hn_; obtain ⟨Al, cl, rfl⟩ := Kd.R_slice hl; have F := F.call hb; have HO := Kd.R_below HO hb) | (at_builtin; refine Kd.R_append_row (w0 := w) (Value.int .i64) 0 w.heap.size rfl _ _ 56 2 (.int .i64 0) 8 rfl Try.underlying56 info2 rfl (by decide) (vv) [p, q] [r] Al _ cl (fun _ => True) rfl rfl (fun _ _ => trivial) HO (Kd.R_reads' hl).2.2 F.below F.base (by simp) ?_; intro vv w3 HO1 hb1 hg1 hn1; clear hn1; have F1 := Fr_append F HO hL hb1 hg1; have F := F1; have HO := HO1; obtain ⟨p0, q0, f0, g0⟩ := F.pair0 23 _ _ rfl; obtain ⟨p1, q1, f1, g1⟩ := F.pair1 23 _ _ rfl; obtain ⟨p2, q2, f2, g2⟩ := F.pair2 23 _ _ rfl))
  rw [rounds_succ]
  go_wp2_with (first | (go_at_call 32; ((with_reducible refine (Hs.out _).mono ?_); rintro e w1 ⟨rfl, ⟨nd, rfl⟩⟩; have F := F.drewN nd; have HO := Kd.R_drewN HO nd)) | ((with_reducible refine gate_dst (N := 35) rfl ?_); refine Kd.R_lit (Kd.int .i64) _ 2 ?hg (N := 35) ?hd (xs := [s]) (inner := [.int .i64 s]) (ok := fun _ => True) (okp := fun _ => True) ?hr ?hp (fun _ hk => hk) trivial (Below.refl _ _) (Nat.le_refl _) (by simp) ?_; (case hd => rfl); (case hg => rfl); (case hr => first | (go_simp; done) | (go_simp; rfl)); (case hp => exact (Reps.one (show Kd.M (Kd.int .i64) _ _ _ s [.int .i64 s] from rfl) (Reps.none _ _))); intro vl w2 hl hb hg_ hn_; clear hg_ hn_; obtain ⟨Al, cl, rfl⟩ := Kd.R_slice hl; have F := F.call hb; have HO := Kd.R_below HO hb) | (at_builtin; refine Kd.R_append_row (w0 := w) (Value.int .i64) 0 w.heap.size rfl _ _ 56 2 (.int .i64 0) 8 rfl Try.underlying56 info2 rfl (by decide) (vv) [p, q, r] [s] Al _ cl (fun _ => True) rfl rfl (fun _ _ => trivial) HO (Kd.R_reads' hl).2.2 F.below F.base (by simp) ?_; intro vv w3 HO1 hb1 hg1 hn1; clear hn1; have F1 := Fr_append F HO hL hb1 hg1; have F := F1; have HO := HO1; obtain ⟨p0, q0, f0, g0⟩ := F.pair0 23 _ _ rfl; obtain ⟨p1, q1, f1, g1⟩ := F.pair1 23 _ _ rfl; obtain ⟨p2, q2, f2, g2⟩ := F.pair2 23 _ _ rfl))
  rw [rounds_succ]
  go_wp2
  rw [rounds_succ]
  obtain ⟨A4, c4, rfl⟩ := Kd.R_slice HO
  have HC : Kd.C (Kd.int .i64) w3 A4 4 [p, q, r, s] := (Kd.R_reads' HO).2.2
  have hc4 : 4 ≤ c4 := (Kd.R_reads' HO).2.1
  go_wp2_with (go_at_call 55; ((with_reducible refine (hull4_c p q r s A4 _ c4 _ rfl HC hc4).mono ?_); rintro e w1 ⟨rfl, hb⟩; have F := F.call hb; obtain ⟨p0, q0, f0, g0⟩ := F.pair0 23 _ _ rfl; obtain ⟨p1, q1, f1, g1⟩ := F.pair1 23 _ _ rfl; obtain ⟨p2, q2, f2, g2⟩ := F.pair2 23 _ _ rfl))
  have F := F.put2 23 _ _ rfl (.int .i32 ((h4 p q r s).1)) (.int .i32 ((h4 p q r s).2))
  exact bodyPost_ret (results_cell_row rfl _ _ (w.heap.size + 1 + 1) 23 #[.int .i32 ((h4 p q r s).1), .int .i32 ((h4 p q r s).2)] (0, 0) _ rfl (F.blk2 23 _ rfl) Try.underlying23 rfl (by kernel_rfl)) rfl ⟨rfl, F.below⟩

set_option maxRecDepth 100000 in
set_option maxHeartbeats 4000000 in
theorem corners56_c (a b c d p q r s : Int) (ha : -2147483648 ≤ a) (ha1 : a ≤ 2147483647) (hb : -2147483648 ≤ b) (hb1 : b ≤ 2147483647) (hc : -2147483648 ≤ c) (hc1 : c ≤ 2147483647) (hd : -2147483648 ≤ d) (hd1 : d ≤ 2147483647)
    (hp : ∀ w, Calls Try.prog 56 #[.int .i64 a, .int .i64 c] w fun e w' => e = .returned (.int .i64 p) ∧ Drawn0 w w')
    (hq : ∀ w, Calls Try.prog 56 #[.int .i64 a, .int .i64 d] w fun e w' => e = .returned (.int .i64 q) ∧ Drawn0 w w')
    (hr : ∀ w, Calls Try.prog 56 #[.int .i64 b, .int .i64 c] w fun e w' => e = .returned (.int .i64 r) ∧ Drawn0 w w')
    (hs : ∀ w, Calls Try.prog 56 #[.int .i64 b, .int .i64 d] w fun e w' => e = .returned (.int .i64 s) ∧ Drawn0 w w')
    (w : World) : Calls Try.prog 29 #[.agg #[.int .i32 a, .int .i32 b], .agg #[.int .i32 c, .int .i32 d], .func (Fn.func 56) #[] #[]] w fun e w' => e = .returned (.agg #[.int .i32 (h4 p q r s).1, .int .i32 (h4 p q r s).2]) ∧ Below w.heap.size w w' := by
  have Hp := Lib.hid hp
  have Hq := Lib.hid hq
  have Hr := Lib.hid hr
  have Hs := Lib.hid hs
  clear hp hq hr hs
  have i00 : ∀ w, (Instr.index 64 (.agg #[.int .i32 a, .int .i32 b]) (.int .i64 0)).run Try.prog w = .ok (.int .i32 a) w := fun _ => by kernel_rfl
  have i01 : ∀ w, (Instr.index 64 (.agg #[.int .i32 a, .int .i32 b]) (.int .i64 1)).run Try.prog w = .ok (.int .i32 b) w := fun _ => by kernel_rfl
  have i10 : ∀ w, (Instr.index 64 (.agg #[.int .i32 c, .int .i32 d]) (.int .i64 0)).run Try.prog w = .ok (.int .i32 c) w := fun _ => by kernel_rfl
  have i11 : ∀ w, (Instr.index 64 (.agg #[.int .i32 c, .int .i32 d]) (.int .i64 1)).run Try.prog w = .ok (.int .i32 d) w := fun _ => by kernel_rfl
  have F := Fr.three w 23 #[.int .i32 a, .int .i32 b] 23 #[.int .i32 c, .int .i32 d] 23 #[.int .i32 0, .int .i32 0]
  have HO : Kd.R (Kd.int .i64) 2 (((w.alloc (.cells #[.int .i32 a, .int .i32 b] 23 (0, 0))).alloc (.cells #[.int .i32 c, .int .i32 d] 23 (0, 0))).alloc (.cells #[.int .i32 0, .int .i32 0] 23 (0, 0))) w.heap.size (fun _ => True) (.slice none 0 0) [] := Kd.R_nil _ _ _ _ _
  have hL : ∀ (i : Nat) (o : TypeId × Array Value), ([(23, #[.int .i32 a, .int .i32 b]), (23, #[.int .i32 c, .int .i32 d]), (23, #[.int .i32 0, .int .i32 0])] : List (TypeId × Array Value))[i]? = some o → o.1 ≠ 2 := by
    intro i o h
    match i, h with
    | 0, h => simp at h; subst h; show 23 ≠ 2; decide
    | 1, h => simp at h; subst h; show 23 ≠ 2; decide
    | 2, h => simp at h; subst h; show 23 ≠ 2; decide
    | i + 3, h => simp at h
  go_enter Try.func29, Try.ntmps29
  go_wp2
  refine wp_loop_rounds 3 ?_
  rw [rounds_succ]
  go_wp2
  refine wp_loop_rounds 3 ?_
  rw [rounds_succ]
  go_wp2_with (first | (go_at_call 56; ((with_reducible refine (Hp.out _).mono ?_); rintro e w1 ⟨rfl, ⟨nd, rfl⟩⟩; have F := F.drewN nd; have HO := Kd.R_drewN HO nd)) | ((with_reducible refine gate_dst (N := 35) rfl ?_); refine Kd.R_lit (Kd.int .i64) _ 2 ?hg (N := 35) ?hd (xs := [p]) (inner := [.int .i64 p]) (ok := fun _ => True) (okp := fun _ => True) ?hr ?hp (fun _ hk => hk) trivial (Below.refl _ _) (Nat.le_refl _) (by simp) ?_; (case hd => rfl); (case hg => rfl); (case hr => first | (go_simp; done) | (go_simp; rfl)); (case hp => exact (Reps.one (show Kd.M (Kd.int .i64) _ _ _ p [.int .i64 p] from rfl) (Reps.none _ _))); intro vl w2 hl hb hg_ hn_; clear hg_ hn_; obtain ⟨Al, cl, rfl⟩ := Kd.R_slice hl; have F := F.call hb; have HO := Kd.R_below HO hb) | (at_builtin; refine Kd.R_append_row (w0 := w) (Value.int .i64) 0 w.heap.size rfl _ _ 56 2 (.int .i64 0) 8 rfl Try.underlying56 info2 rfl (by decide) (.slice none 0 0) [] [p] Al _ cl (fun _ => True) rfl rfl (fun _ _ => trivial) HO (Kd.R_reads' hl).2.2 F.below F.base (by simp) ?_; intro vv w3 HO1 hb1 hg1 hn1; clear hn1; have F1 := Fr_append F HO hL hb1 hg1; have F := F1; have HO := HO1; obtain ⟨p0, q0, f0, g0⟩ := F.pair0 23 _ _ rfl; obtain ⟨p1, q1, f1, g1⟩ := F.pair1 23 _ _ rfl; obtain ⟨p2, q2, f2, g2⟩ := F.pair2 23 _ _ rfl))
  rw [rounds_succ]
  go_wp2_with (first | (go_at_call 56; ((with_reducible refine (Hq.out _).mono ?_); rintro e w1 ⟨rfl, ⟨nd, rfl⟩⟩; have F := F.drewN nd; have HO := Kd.R_drewN HO nd)) | ((with_reducible refine gate_dst (N := 35) rfl ?_); refine Kd.R_lit (Kd.int .i64) _ 2 ?hg (N := 35) ?hd (xs := [q]) (inner := [.int .i64 q]) (ok := fun _ => True) (okp := fun _ => True) ?hr ?hp (fun _ hk => hk) trivial (Below.refl _ _) (Nat.le_refl _) (by simp) ?_; (case hd => rfl); (case hg => rfl); (case hr => first | (go_simp; done) | (go_simp; rfl)); (case hp => exact (Reps.one (show Kd.M (Kd.int .i64) _ _ _ q [.int .i64 q] from rfl) (Reps.none _ _))); intro vl w2 hl hb hg_ hn_; clear hg_ hn_; obtain ⟨Al, cl, rfl⟩ := Kd.R_slice hl; have F := F.call hb; have HO := Kd.R_below HO hb) | (at_builtin; refine Kd.R_append_row (w0 := w) (Value.int .i64) 0 w.heap.size rfl _ _ 56 2 (.int .i64 0) 8 rfl Try.underlying56 info2 rfl (by decide) (vv) [p] [q] Al _ cl (fun _ => True) rfl rfl (fun _ _ => trivial) HO (Kd.R_reads' hl).2.2 F.below F.base (by simp) ?_; intro vv w3 HO1 hb1 hg1 hn1; clear hn1; have F1 := Fr_append F HO hL hb1 hg1; have F := F1; have HO := HO1; obtain ⟨p0, q0, f0, g0⟩ := F.pair0 23 _ _ rfl; obtain ⟨p1, q1, f1, g1⟩ := F.pair1 23 _ _ rfl; obtain ⟨p2, q2, f2, g2⟩ := F.pair2 23 _ _ rfl))
  rw [rounds_succ]
  go_wp2
  rw [rounds_succ]
  go_wp2
  refine wp_loop_rounds 3 ?_
  rw [rounds_succ]
  go_wp2_with (first | (go_at_call 56; ((with_reducible refine (Hr.out _).mono ?_); rintro e w1 ⟨rfl, ⟨nd, rfl⟩⟩; have F := F.drewN nd; have HO := Kd.R_drewN HO nd)) | ((with_reducible refine gate_dst (N := 35) rfl ?_); refine Kd.R_lit (Kd.int .i64) _ 2 ?hg (N := 35) ?hd (xs := [r]) (inner := [.int .i64 r]) (ok := fun _ => True) (okp := fun _ => True) ?hr ?hp (fun _ hk => hk) trivial (Below.refl _ _) (Nat.le_refl _) (by simp) ?_; (case hd => rfl); (case hg => rfl); (case hr => first | (go_simp; done) | (go_simp; rfl)); (case hp => exact (Reps.one (show Kd.M (Kd.int .i64) _ _ _ r [.int .i64 r] from rfl) (Reps.none _ _))); intro vl w2 hl hb hg_ hn_; clear hg_ hn_; obtain ⟨Al, cl, rfl⟩ := Kd.R_slice hl; have F := F.call hb; have HO := Kd.R_below HO hb) | (at_builtin; refine Kd.R_append_row (w0 := w) (Value.int .i64) 0 w.heap.size rfl _ _ 56 2 (.int .i64 0) 8 rfl Try.underlying56 info2 rfl (by decide) (vv) [p, q] [r] Al _ cl (fun _ => True) rfl rfl (fun _ _ => trivial) HO (Kd.R_reads' hl).2.2 F.below F.base (by simp) ?_; intro vv w3 HO1 hb1 hg1 hn1; clear hn1; have F1 := Fr_append F HO hL hb1 hg1; have F := F1; have HO := HO1; obtain ⟨p0, q0, f0, g0⟩ := F.pair0 23 _ _ rfl; obtain ⟨p1, q1, f1, g1⟩ := F.pair1 23 _ _ rfl; obtain ⟨p2, q2, f2, g2⟩ := F.pair2 23 _ _ rfl))
  rw [rounds_succ]
  go_wp2_with (first | (go_at_call 56; ((with_reducible refine (Hs.out _).mono ?_); rintro e w1 ⟨rfl, ⟨nd, rfl⟩⟩; have F := F.drewN nd; have HO := Kd.R_drewN HO nd)) | ((with_reducible refine gate_dst (N := 35) rfl ?_); refine Kd.R_lit (Kd.int .i64) _ 2 ?hg (N := 35) ?hd (xs := [s]) (inner := [.int .i64 s]) (ok := fun _ => True) (okp := fun _ => True) ?hr ?hp (fun _ hk => hk) trivial (Below.refl _ _) (Nat.le_refl _) (by simp) ?_; (case hd => rfl); (case hg => rfl); (case hr => first | (go_simp; done) | (go_simp; rfl)); (case hp => exact (Reps.one (show Kd.M (Kd.int .i64) _ _ _ s [.int .i64 s] from rfl) (Reps.none _ _))); intro vl w2 hl hb hg_ hn_; clear hg_ hn_; obtain ⟨Al, cl, rfl⟩ := Kd.R_slice hl; have F := F.call hb; have HO := Kd.R_below HO hb) | (at_builtin; refine Kd.R_append_row (w0 := w) (Value.int .i64) 0 w.heap.size rfl _ _ 56 2 (.int .i64 0) 8 rfl Try.underlying56 info2 rfl (by decide) (vv) [p, q, r] [s] Al _ cl (fun _ => True) rfl rfl (fun _ _ => trivial) HO (Kd.R_reads' hl).2.2 F.below F.base (by simp) ?_; intro vv w3 HO1 hb1 hg1 hn1; clear hn1; have F1 := Fr_append F HO hL hb1 hg1; have F := F1; have HO := HO1; obtain ⟨p0, q0, f0, g0⟩ := F.pair0 23 _ _ rfl; obtain ⟨p1, q1, f1, g1⟩ := F.pair1 23 _ _ rfl; obtain ⟨p2, q2, f2, g2⟩ := F.pair2 23 _ _ rfl))
  rw [rounds_succ]
  go_wp2
  rw [rounds_succ]
  obtain ⟨A4, c4, rfl⟩ := Kd.R_slice HO
  have HC : Kd.C (Kd.int .i64) w3 A4 4 [p, q, r, s] := (Kd.R_reads' HO).2.2
  have hc4 : 4 ≤ c4 := (Kd.R_reads' HO).2.1
  go_wp2_with (go_at_call 55; ((with_reducible refine (hull4_c p q r s A4 _ c4 _ rfl HC hc4).mono ?_); rintro e w1 ⟨rfl, hb⟩; have F := F.call hb; obtain ⟨p0, q0, f0, g0⟩ := F.pair0 23 _ _ rfl; obtain ⟨p1, q1, f1, g1⟩ := F.pair1 23 _ _ rfl; obtain ⟨p2, q2, f2, g2⟩ := F.pair2 23 _ _ rfl))
  have F := F.put2 23 _ _ rfl (.int .i32 ((h4 p q r s).1)) (.int .i32 ((h4 p q r s).2))
  exact bodyPost_ret (results_cell_row rfl _ _ (w.heap.size + 1 + 1) 23 #[.int .i32 ((h4 p q r s).1), .int .i32 ((h4 p q r s).2)] (0, 0) _ rfl (F.blk2 23 _ rfl) Try.underlying23 rfl (by kernel_rfl)) rfl ⟨rfl, F.below⟩

end Go.Proofs.Ytcchelfopbgolaa.Corners
