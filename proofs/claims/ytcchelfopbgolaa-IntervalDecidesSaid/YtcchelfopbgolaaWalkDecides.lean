/- The walk of the law IntervalDecides: it returns true. Conditions: as each theorem says. -/
import Derived.Test.YtcchelfopbgolaaPairsB
import Derived.Test.YtcchelfopbgolaaPlainDecides
import Derived.Deep.DeepCutAuto
namespace Go.Proofs.Ytcchelfopbgolaa.Decides
open Go.RowKit Go.Proofs.Ytcchelfopbgolaa.PIntervalSets Go.Proofs.YtcchelfopbgolaaW.PrintWords Go.Proofs.YtcchelfopbgolaaW.PrintLast Go.Proofs.YtcchelfopbgolaaW.PrintMore
open Go.Proofs.YtcchelfopbgolaaPlain Base Blocks Small Corners Divide Divides Decide Apply Awake
set_option linter.unusedSimpArgs false
set_option linter.unusedVariables false

theorem flip_r (a b r s : Int) (h1 : wrap32 (1 - b) = r) (h2 : wrap32 (1 - a) = s) (w : World) : Calls Try.prog 26 #[.agg #[.int .i32 a, .int .i32 b]] w fun e w' => e = .returned (.agg #[.int .i32 r, .int .i32 s]) ∧ Below w.heap.size w w' := by
  have := flip_c a b w
  rwa [h1, h2] at this

def T_8_3 : Bool × List (List Nat × List Nat) := (true, [([], []), ([], []), ([0, 1], [0, 1]), ([], []), ([], []), ([3, 4, 2], [3, 4]), ([], []), ([], []), ([6, 2, 5, 0, 1, 2, 6, 7], [2, 6]), ([7, 5, 8, 0, 1, 2, 3, 4, 5, 6, 7, 8], [5, 7])])
def B_8_3 : List Nat := [0, 0, 3, 0, 0, 31, 0, 0, 255, 511]
theorem tab_8_3 : rtab .any (opsOf Try.f8 3) = T_8_3 := by kernel_rfl
theorem bits_8_3 : waitsOk T_8_3.2 B_8_3 = true := by kernel_rfl
def T_8_4 : Bool × List (List Nat × List Nat) := (true, [([], []), ([], []), ([0, 1], [0, 1]), ([], []), ([], []), ([3, 4, 2], [3, 4]), ([], []), ([], []), ([6, 2, 5, 0, 1, 2, 6, 7], [2, 6]), ([7, 5, 8, 0, 1, 2, 3, 4, 5, 6, 7, 8], [5, 7])])
def B_8_4 : List Nat := [0, 0, 3, 0, 0, 31, 0, 0, 255, 511]
theorem tab_8_4 : rtab .any (opsOf Try.f8 4) = T_8_4 := by kernel_rfl
theorem bits_8_4 : waitsOk T_8_4.2 B_8_4 = true := by kernel_rfl
def T_8_5 : Bool × List (List Nat × List Nat) := (true, [([], []), ([], []), ([0, 1], [0, 1]), ([], []), ([], []), ([3, 4, 2], [3, 4]), ([], []), ([], []), ([6, 2, 5, 0, 1, 2, 6, 7], [2, 6]), ([7, 5, 8, 0, 1, 2, 3, 4, 5, 6, 7, 8], [5, 7])])
def B_8_5 : List Nat := [0, 0, 3, 0, 0, 31, 0, 0, 255, 511]
theorem tab_8_5 : rtab .any (opsOf Try.f8 5) = T_8_5 := by kernel_rfl
theorem bits_8_5 : waitsOk T_8_5.2 B_8_5 = true := by kernel_rfl
def T_8_7 : Bool × List (List Nat × List Nat) := (true, [([], []), ([0], [0]), ([], []), ([2], [2]), ([], []), ([4], [4]), ([3, 5], [3, 5]), ([1, 6], [1, 6]), ([7, 1], [7]), ([8], [8]), ([9, 8, 8], [8, 9]), ([8], [8]), ([11, 8], [8, 11]), ([8], [8]), ([13, 8], [8, 13]), ([12, 14, 8], [8, 12, 14]), ([10, 15, 8], [8, 10, 15]), ([8, 16], [8, 16]), ([17, 10], [17]), ([18], [18]), ([19, 18, 18], [18, 19]), ([18], [18]), ([21, 18], [18, 21]), ([18], [18]), ([23, 18], [18, 23]), ([22, 24, 18], [18, 22, 24]), ([20, 25, 18], [18, 20, 25]), ([18, 26], [18, 26]), ([27, 20], [27]), ([28], [28]), ([29, 28, 28], [28, 29]), ([28], [28]), ([31, 28], [28, 31]), ([28], [28]), ([33, 28], [28, 33]), ([32, 34, 28], [28, 32, 34]), ([30, 35, 28], [28, 30, 35]), ([28, 36], [28, 36]), ([37, 30], [37]), ([38], [38]), ([38], [38]), ([38], [38]), ([40, 41, 38, 38], [38, 40, 41]), ([39, 42, 38], [38, 39, 42]), ([38, 43], [38, 43]), ([44, 42], [44]), ([45], [45]), ([45], [45]), ([45], [45]), ([47, 48, 45, 45], [45, 47, 48]), ([46, 49, 45], [45, 46, 49]), ([45, 50], [45, 50]), ([51, 49], [51]), ([52], [52]), ([52], [52]), ([52], [52]), ([54, 55, 52, 52], [52, 54, 55]), ([53, 56, 52], [52, 53, 56]), ([52, 57], [52, 57]), ([58, 56], [58]), ([59], [59]), ([60, 59, 59], [59, 60]), ([59], [59]), ([62, 59], [59, 62]), ([59], [59]), ([64, 59], [59, 64]), ([63, 65, 59], [59, 63, 65]), ([66, 61, 59], [59, 66]), ([67], [67]), ([68, 67], [67, 68]), ([67], [67]), ([70, 67], [67, 70]), ([69, 71, 67], [67, 69, 71]), ([67, 72, 59], [59, 67, 72]), ([61, 73, 59], [59, 61, 73]), ([59, 74], [59, 74]), ([75, 67, 0, 1, 2, 3, 4, 5, 6, 7, 8, 9, 10, 11, 12, 13, 14, 15, 16, 17, 18, 19, 20, 21, 22, 23, 24, 25, 26, 27, 28, 29, 30, 31, 32, 33, 34, 35, 36, 37, 38, 39, 40, 41, 42, 43, 44, 45, 46, 47, 48, 49, 50, 51, 52, 53, 54, 55, 56, 57, 58, 59, 60, 61, 62, 63, 64, 65, 66, 67, 68, 69, 70, 71, 72, 73, 74, 75], [75])])
def B_8_7 : List Nat := [0, 1, 0, 4, 0, 16, 60, 127, 255, 511, 1023, 511, 2559, 511, 8703, 31231, 65535, 131071, 262143, 524287, 1048575, 524287, 2621439, 524287, 8912895, 31981567, 67108863, 134217727, 268435455, 536870911, 1073741823, 536870911, 2684354559, 536870911, 9126805503, 32749125631, 68719476735, 137438953471, 274877906943, 549755813887, 549755813887, 549755813887, 3848290697215, 8796093022207, 17592186044415, 35184372088831, 70368744177663, 70368744177663, 70368744177663, 492581209243647, 1125899906842623, 2251799813685247, 4503599627370495, 9007199254740991, 9007199254740991, 9007199254740991, 63050394783186943, 144115188075855871, 288230376151711743, 576460752303423487, 1152921504606846975, 2305843009213693951, 1152921504606846975, 5764607523034234879, 1152921504606846975, 19599665578316398591, 70328211781017665535, 147573952589676412927, 295147905179352825855, 590295810358705651711, 295147905179352825855, 1475739525896764129279, 4722366482869645213695, 9444732965739290427391, 18889465931478580854783, 37778931862957161709567, 75557863725914323419135]
theorem tab_8_7 : rtab .any (opsOf Try.f8 7) = T_8_7 := by kernel_rfl
theorem bits_8_7 : waitsOk T_8_7.2 B_8_7 = true := by kernel_rfl
set_option maxRecDepth 100000 in
theorem dec_empty1 (a b c d : Int) (hg : b < a) (w : World) : Calls Try.prog 8 #[.agg #[.int .i32 a, .int .i32 b], .agg #[.int .i32 c, .int .i32 d]] w fun e w' => e = .returned (.bool true) ∧ Below w.heap.size w w' := by
  have F := Fr.two w 23 #[.int .i32 a, .int .i32 b] 23 #[.int .i32 c, .int .i32 d]
  go_enter Try.func8, Try.ntmps8
  go_wp2_with (first | (go_at_call 13; ((with_reducible refine (awake_c _).mono ?_); rintro e w1 ⟨rfl, hb⟩; replace F : Fr w w1 [(23, #[.int .i32 a, .int .i32 b]), (23, #[.int .i32 c, .int .i32 d])] := (by first | exact F.call hb | exact F.drew.call hb | exact (F.drewN _).call hb); (try clear p0 q0 p1 q1); obtain ⟨p0, q0, -, -⟩ := F.pair0 23 _ _ rfl; obtain ⟨p1, q1, -, -⟩ := F.pair1 23 _ _ rfl; clear hb)))
  go_ret
  exact ⟨by first | rfl | (simp; done), F.below⟩

set_option maxRecDepth 100000 in
theorem dec_empty2 (a b c d : Int) (hg : a ≤ b) (hh : d < c) (w : World) : Calls Try.prog 8 #[.agg #[.int .i32 a, .int .i32 b], .agg #[.int .i32 c, .int .i32 d]] w fun e w' => e = .returned (.bool true) ∧ Below w.heap.size w w' := by
  have F := Fr.two w 23 #[.int .i32 a, .int .i32 b] 23 #[.int .i32 c, .int .i32 d]
  go_enter Try.func8, Try.ntmps8
  go_wp2_with (first | (go_at_call 13; ((with_reducible refine (awake_c _).mono ?_); rintro e w1 ⟨rfl, hb⟩; replace F : Fr w w1 [(23, #[.int .i32 a, .int .i32 b]), (23, #[.int .i32 c, .int .i32 d])] := (by first | exact F.call hb | exact F.drew.call hb | exact (F.drewN _).call hb); (try clear p0 q0 p1 q1); obtain ⟨p0, q0, -, -⟩ := F.pair0 23 _ _ rfl; obtain ⟨p1, q1, -, -⟩ := F.pair1 23 _ _ rfl; clear hb)))
  go_ret
  exact ⟨by first | rfl | (simp; done), F.below⟩

set_option maxRecDepth 100000 in
set_option maxHeartbeats 16000000 in
theorem dec_main (a b c d lt1 lt2 ge1 ge2 le1 le2 gt1 gt2 eq1 eq2 ne1 ne2 : Int) (ha : -2147483648 ≤ a) (ha1 : a ≤ 2147483647) (hb : -2147483648 ≤ b) (hb1 : b ≤ 2147483647) (hc : -2147483648 ≤ c) (hc1 : c ≤ 2147483647) (hd : -2147483648 ≤ d) (hd1 : d ≤ 2147483647) (hab : a ≤ b) (hcd : c ≤ d) (hlt : iap 18 a b c d = (lt1, lt2)) (hge : iap 21 a b c d = (ge1, ge2)) (hle : iap 19 a b c d = (le1, le2)) (hgt : iap 20 a b c d = (gt1, gt2)) (heq : iap 16 a b c d = (eq1, eq2)) (hne : iap 17 a b c d = (ne1, ne2)) (c1 : ct lt1 lt2 1 = decide (a < d)) (c2 : ct lt1 lt2 0 = decide (c ≤ b)) (c3 : ct le1 le2 1 = decide (a ≤ d)) (c4 : ct le1 le2 0 = decide (c < b)) (c5 : ct eq1 eq2 1 = decide (a ≤ d ∧ c ≤ b)) (e1 : wrap32 (1 - lt2) = ge1) (e2 : wrap32 (1 - lt1) = ge2) (e3 : wrap32 (1 - le2) = gt1) (e4 : wrap32 (1 - le1) = gt2) (e5 : wrap32 (1 - eq2) = ne1) (e6 : wrap32 (1 - eq1) = ne2) (w : World) :
    Calls Try.prog 8 #[.agg #[.int .i32 a, .int .i32 b], .agg #[.int .i32 c, .int .i32 d]] w fun e w' => e = .returned (.bool true) ∧ Below w.heap.size w w' := by
  have Hhlt := Lib.hid hlt
  have Hhge := Lib.hid hge
  have Hhle := Lib.hid hle
  have Hhgt := Lib.hid hgt
  have Hheq := Lib.hid heq
  have Hhne := Lib.hid hne
  have Hc1 := Lib.hid c1
  have Hc2 := Lib.hid c2
  have Hc3 := Lib.hid c3
  have Hc4 := Lib.hid c4
  have Hc5 := Lib.hid c5
  have He1 := Lib.hid e1
  have He2 := Lib.hid e2
  have He3 := Lib.hid e3
  have He4 := Lib.hid e4
  have He5 := Lib.hid e5
  have He6 := Lib.hid e6
  clear hlt hge hle hgt heq hne c1 c2 c3 c4 c5 e1 e2 e3 e4 e5 e6
  have Qlt := Lib.hid (fun w => apply_r 18 a b c d lt1 lt2 ha ha1 hb hb1 hc hc1 hd hd1 Hhlt.out w)
  have Qge := Lib.hid (fun w => apply_r 21 a b c d ge1 ge2 ha ha1 hb hb1 hc hc1 hd hd1 Hhge.out w)
  have Qle := Lib.hid (fun w => apply_r 19 a b c d le1 le2 ha ha1 hb hb1 hc hc1 hd hd1 Hhle.out w)
  have Qgt := Lib.hid (fun w => apply_r 20 a b c d gt1 gt2 ha ha1 hb hb1 hc hc1 hd hd1 Hhgt.out w)
  have Qeq := Lib.hid (fun w => apply_r 16 a b c d eq1 eq2 ha ha1 hb hb1 hc hc1 hd hd1 Hheq.out w)
  have Qne := Lib.hid (fun w => apply_r 17 a b c d ne1 ne2 ha ha1 hb hb1 hc hc1 hd hd1 Hhne.out w)
  have F := Fr.two w 23 #[.int .i32 a, .int .i32 b] 23 #[.int .i32 c, .int .i32 d]
  obtain ⟨p0, q0, -, -⟩ := F.pair0 23 _ _ rfl
  obtain ⟨p1, q1, -, -⟩ := F.pair1 23 _ _ rfl
  have hu23 := Try.underlying23
  go_enter Try.func8, Try.ntmps8
  go_upto_region 3 with (first | (go_at_call 13; ((with_reducible refine (awake_c _).mono ?_); rintro e w1 ⟨rfl, hb⟩; replace F : Fr w w1 [(23, #[.int .i32 a, .int .i32 b]), (23, #[.int .i32 c, .int .i32 d])] := (by first | exact F.call hb | exact F.drew.call hb | exact (F.drewN _).call hb); (try clear p0 q0 p1 q1); obtain ⟨p0, q0, -, -⟩ := F.pair0 23 _ _ rfl; obtain ⟨p1, q1, -, -⟩ := F.pair1 23 _ _ rfl; clear hb)))
  refine start_ (n := 10) (S := fun w' => w'.cell? ⟨w.heap.size, 0, none⟩ = some (.int .i32 a) ∧ w'.cell? ⟨w.heap.size, 1, none⟩ = some (.int .i32 b) ∧ w'.cell? ⟨w.heap.size + 1, 0, none⟩ = some (.int .i32 c) ∧ w'.cell? ⟨w.heap.size + 1, 1, none⟩ = some (.int .i32 d)) (ds := [8, 9]) (bl 10 0) (by kernel_rfl) rfl (by kernel_rfl) ⟨p0, q0, p1, q1⟩ (fun hHeld => ?_)
  replace F := F.drew
  refine with_tabW tab_8_3 bits_8_3 (fun HT_ HW_ => ?_)
  refine take_ (i := 0) (N := some 29) (v := ?_) (a' := ?_) (bl 10 1) rfl rfl (take_ofW HT_.out HW_.out (by kernel_rfl)) (fun _ _ _ h => h) (Or.inl ⟨by rfl, ?_⟩) hHeld ?_ ?_
  rotate_left
  (rintro w' ⟨s0, s1, s2, s3⟩; go_simp; with_reducible rfl)
  rotate_left
  (simp only [Act.put, List.setIfInBounds_toArray, List.set_cons_zero, List.set_cons_succ, i64_w, i32_w]; rfl)
  refine take_ (i := 1) (N := some 30) (v := ?_) (a' := ?_) (bl 10 3) rfl rfl (take_ofW HT_.out HW_.out (by kernel_rfl)) (fun _ _ _ h => h) (Or.inl ⟨by rfl, ?_⟩) hHeld ?_ ?_
  rotate_left
  (rintro w' ⟨s0, s1, s2, s3⟩; go_simp; with_reducible rfl)
  rotate_left
  (simp only [Act.put, List.setIfInBounds_toArray, List.set_cons_zero, List.set_cons_succ, i64_w, i32_w]; rfl)
  refine take_ (i := 3) (N := some 32) (v := ?_) (a' := ?_) (bl 10 11) rfl rfl (take_ofW HT_.out HW_.out (by kernel_rfl)) (fun _ _ _ h => h) (Or.inl ⟨by rfl, ?_⟩) hHeld ?_ ?_
  rotate_left
  (rintro w' ⟨s0, s1, s2, s3⟩; go_simp; with_reducible rfl)
  rotate_left
  (simp only [Act.put, List.setIfInBounds_toArray, List.set_cons_zero, List.set_cons_succ, i64_w, i32_w]; rfl)
  refine take_ (i := 4) (N := some 33) (v := ?_) (a' := ?_) (bl 10 27) rfl rfl (take_ofW HT_.out HW_.out (by kernel_rfl)) (fun _ _ _ h => h) (Or.inl ⟨by rfl, ?_⟩) hHeld ?_ ?_
  rotate_left
  (rintro w' ⟨s0, s1, s2, s3⟩; go_simp; with_reducible rfl)
  rotate_left
  (simp only [Act.put, List.setIfInBounds_toArray, List.set_cons_zero, List.set_cons_succ, i64_w, i32_w]; rfl)
  have hsz := F.size 1 _ rfl
  refine pair_orders3 (f := 20) (g := 20) (v2 := .agg #[.int .i32 lt1, .int .i32 lt2]) (v5 := .agg #[.int .i32 ge1, .int .i32 ge2]) (z := #[.int .i32 0, .int .i32 0]) (by kernel_rfl) rfl rfl rfl rfl rfl rfl rfl rfl rfl rfl rfl rfl (fun a w => by first | (go_simp; done) | (go_simp; rfl)) rfl rfl (fun a w => by first | (go_simp; done) | (go_simp; rfl)) Try.func20 (by kernel_rfl) rfl (fun w => Qlt.out w) Try.func20 (by kernel_rfl) rfl (fun w => Qge.out w) (by decide) ?hS3 rfl rfl rfl rfl ?hF3
  case hS3 =>
    intro w' hb
    have F : Fr w w' [(23, #[.int .i32 a, .int .i32 b]), (23, #[.int .i32 c, .int .i32 d])] := F.call hb
    (try clear p0 q0 p1 q1)
    obtain ⟨p0, q0, -, -⟩ := F.pair0 23 _ _ rfl
    obtain ⟨p1, q1, -, -⟩ := F.pair1 23 _ _ rfl
    exact ⟨p0, q0, p1, q1⟩
  intro g5 g6 w2 hb l9 l10 hne K5 K6
  have h9 : w.heap.size + 2 ≤ g5 := Nat.le_trans hsz l9
  have h10 : w.heap.size + 2 ≤ g6 := Nat.le_trans hsz l10
  have F : Fr w w2 [(23, #[.int .i32 a, .int .i32 b]), (23, #[.int .i32 c, .int .i32 d])] := F.call hb
  simp only [Act.put, List.setIfInBounds_toArray, List.set_cons_zero, List.set_cons_succ, i64_w, i32_w]
  have hne2 : g6 ≠ g5 := Ne.symm hne
  obtain ⟨ca, cb, fa, fb⟩ : w2.cell? ⟨g5, 0, none⟩ = some (.int .i32 0) ∧ w2.cell? ⟨g5, 1, none⟩ = some (.int .i32 0) ∧ w2.frozen? ⟨g5, 0, none⟩ = false ∧ w2.frozen? ⟨g5, 1, none⟩ = false := ⟨(blk_cell K5 0).trans rfl, (blk_cell K5 1).trans rfl, blk_frozen K5 0, blk_frozen K5 1⟩
  refine last_ (i := 8) (N := none) (bl 10 511) rfl rfl (one_of HT_.out (by kernel_rfl)) (by decide) (fun K hK => ?_)
  rw [if_pos (by rfl)]
  go_simp
  refine hK.out _ _ ?_
  clear hK K ca cb fa fb
  have K5 : ((w2.setCell ⟨g5, 0, none⟩ (.int .i32 lt1)).setCell ⟨g5, 1, none⟩ (.int .i32 lt2)).heap[g5]? = some (.cells #[.int .i32 lt1, .int .i32 lt2] 23 (0, 0)) := blk_put (cs := #[.int .i32 lt1, .int .i32 0]) (blk_put (cs := #[.int .i32 0, .int .i32 0]) K5 0 _ rfl) 1 _ rfl
  have K6 : ((w2.setCell ⟨g5, 0, none⟩ (.int .i32 lt1)).setCell ⟨g5, 1, none⟩ (.int .i32 lt2)).heap[g6]? = some (.cells #[.int .i32 0, .int .i32 0] 23 (0, 0)) := blk_far (blk_far K6 (p := ⟨g5, 0, none⟩) (by simpa using hne2) _) (p := ⟨g5, 1, none⟩) (by simpa using hne2) _
  have F := (F.far g5 0 (by simpa using h9) (.int .i32 lt1)).far g5 1 (by simpa using h9) (.int .i32 lt2)
  generalize (w2.setCell ⟨g5, 0, none⟩ (.int .i32 lt1)).setCell ⟨g5, 1, none⟩ (.int .i32 lt2) = w3 at *
  obtain ⟨ca, cb, fa, fb⟩ : w3.cell? ⟨g6, 0, none⟩ = some (.int .i32 0) ∧ w3.cell? ⟨g6, 1, none⟩ = some (.int .i32 0) ∧ w3.frozen? ⟨g6, 0, none⟩ = false ∧ w3.frozen? ⟨g6, 1, none⟩ = false := ⟨(blk_cell K6 0).trans rfl, (blk_cell K6 1).trans rfl, blk_frozen K6 0, blk_frozen K6 1⟩
  refine last_ (i := 9) (N := none) (bl 10 1023) rfl rfl (one_of HT_.out (by kernel_rfl)) (by decide) (fun K hK => ?_)
  rw [if_pos (by rfl)]
  go_simp
  refine hK.out _ _ ?_
  clear hK K ca cb fa fb
  have K6 : ((w3.setCell ⟨g6, 0, none⟩ (.int .i32 ge1)).setCell ⟨g6, 1, none⟩ (.int .i32 ge2)).heap[g6]? = some (.cells #[.int .i32 ge1, .int .i32 ge2] 23 (0, 0)) := blk_put (cs := #[.int .i32 ge1, .int .i32 0]) (blk_put (cs := #[.int .i32 0, .int .i32 0]) K6 0 _ rfl) 1 _ rfl
  have K5 : ((w3.setCell ⟨g6, 0, none⟩ (.int .i32 ge1)).setCell ⟨g6, 1, none⟩ (.int .i32 ge2)).heap[g5]? = some (.cells #[.int .i32 lt1, .int .i32 lt2] 23 (0, 0)) := blk_far (blk_far K5 (p := ⟨g6, 0, none⟩) (by simpa using hne) _) (p := ⟨g6, 1, none⟩) (by simpa using hne) _
  have F := (F.far g6 0 (by simpa using h10) (.int .i32 ge1)).far g6 1 (by simpa using h10) (.int .i32 ge2)
  generalize (w3.setCell ⟨g6, 0, none⟩ (.int .i32 ge1)).setCell ⟨g6, 1, none⟩ (.int .i32 ge2) = w4 at *
  refine done_ (by kernel_rfl) ?_
  (try clear p0 q0 p1 q1)
  obtain ⟨p0, q0, -, -⟩ := F.pair0 23 _ _ rfl
  obtain ⟨p1, q1, -, -⟩ := F.pair1 23 _ _ rfl
  (try clear K5a K5b)
  have K5a : w4.cell? ⟨g5, 0, none⟩ = some (.int .i32 lt1) := (blk_cell K5 0).trans rfl
  have K5b : w4.cell? ⟨g5, 1, none⟩ = some (.int .i32 lt2) := (blk_cell K5 1).trans rfl
  (try clear K6a K6b)
  have K6a : w4.cell? ⟨g6, 0, none⟩ = some (.int .i32 ge1) := (blk_cell K6 0).trans rfl
  have K6b : w4.cell? ⟨g6, 1, none⟩ = some (.int .i32 ge2) := (blk_cell K6 1).trans rfl
  go_upto_region 4 with fail
  refine start_ (n := 10) (S := fun w' => w'.cell? ⟨w.heap.size, 0, none⟩ = some (.int .i32 a) ∧ w'.cell? ⟨w.heap.size, 1, none⟩ = some (.int .i32 b) ∧ w'.cell? ⟨w.heap.size + 1, 0, none⟩ = some (.int .i32 c) ∧ w'.cell? ⟨w.heap.size + 1, 1, none⟩ = some (.int .i32 d) ∧ w'.cell? ⟨g5, 0, none⟩ = some (.int .i32 lt1) ∧ w'.cell? ⟨g5, 1, none⟩ = some (.int .i32 lt2) ∧ w'.cell? ⟨g6, 0, none⟩ = some (.int .i32 ge1) ∧ w'.cell? ⟨g6, 1, none⟩ = some (.int .i32 ge2)) (ds := [8, 9]) (bl 10 0) (by kernel_rfl) rfl (by kernel_rfl) ⟨p0, q0, p1, q1, K5a, K5b, K6a, K6b⟩ (fun hHeld => ?_)
  replace F := F.drew
  replace K5 := blk_drew K5
  replace K6 := blk_drew K6
  refine with_tabW tab_8_4 bits_8_4 (fun HT_ HW_ => ?_)
  refine take_ (i := 0) (N := some 35) (v := ?_) (a' := ?_) (bl 10 1) rfl rfl (take_ofW HT_.out HW_.out (by kernel_rfl)) (fun _ _ _ h => h) (Or.inl ⟨by rfl, ?_⟩) hHeld ?_ ?_
  rotate_left
  (rintro w' ⟨s0, s1, s2, s3, s4, s5, s6, s7⟩; go_simp; with_reducible rfl)
  rotate_left
  (simp only [Act.put, List.setIfInBounds_toArray, List.set_cons_zero, List.set_cons_succ, i64_w, i32_w]; rfl)
  refine take_ (i := 1) (N := some 36) (v := ?_) (a' := ?_) (bl 10 3) rfl rfl (take_ofW HT_.out HW_.out (by kernel_rfl)) (fun _ _ _ h => h) (Or.inl ⟨by rfl, ?_⟩) hHeld ?_ ?_
  rotate_left
  (rintro w' ⟨s0, s1, s2, s3, s4, s5, s6, s7⟩; go_simp; with_reducible rfl)
  rotate_left
  (simp only [Act.put, List.setIfInBounds_toArray, List.set_cons_zero, List.set_cons_succ, i64_w, i32_w]; rfl)
  refine take_ (i := 3) (N := some 38) (v := ?_) (a' := ?_) (bl 10 11) rfl rfl (take_ofW HT_.out HW_.out (by kernel_rfl)) (fun _ _ _ h => h) (Or.inl ⟨by rfl, ?_⟩) hHeld ?_ ?_
  rotate_left
  (rintro w' ⟨s0, s1, s2, s3, s4, s5, s6, s7⟩; go_simp; with_reducible rfl)
  rotate_left
  (simp only [Act.put, List.setIfInBounds_toArray, List.set_cons_zero, List.set_cons_succ, i64_w, i32_w]; rfl)
  refine take_ (i := 4) (N := some 39) (v := ?_) (a' := ?_) (bl 10 27) rfl rfl (take_ofW HT_.out HW_.out (by kernel_rfl)) (fun _ _ _ h => h) (Or.inl ⟨by rfl, ?_⟩) hHeld ?_ ?_
  rotate_left
  (rintro w' ⟨s0, s1, s2, s3, s4, s5, s6, s7⟩; go_simp; with_reducible rfl)
  rotate_left
  (simp only [Act.put, List.setIfInBounds_toArray, List.set_cons_zero, List.set_cons_succ, i64_w, i32_w]; rfl)
  have hsz := F.size 1 _ rfl
  have K5lt := blk_lt K5
  have K6lt := blk_lt K6
  refine pair_orders3 (f := 20) (g := 20) (v2 := .agg #[.int .i32 le1, .int .i32 le2]) (v5 := .agg #[.int .i32 gt1, .int .i32 gt2]) (z := #[.int .i32 0, .int .i32 0]) (by kernel_rfl) rfl rfl rfl rfl rfl rfl rfl rfl rfl rfl rfl rfl (fun a w => by first | (go_simp; done) | (go_simp; rfl)) rfl rfl (fun a w => by first | (go_simp; done) | (go_simp; rfl)) Try.func20 (by kernel_rfl) rfl (fun w => Qle.out w) Try.func20 (by kernel_rfl) rfl (fun w => Qgt.out w) (by decide) ?hS4 rfl rfl rfl rfl ?hF4
  case hS4 =>
    intro w' hb
    have F : Fr w w' [(23, #[.int .i32 a, .int .i32 b]), (23, #[.int .i32 c, .int .i32 d])] := F.call hb
    (try clear p0 q0 p1 q1)
    obtain ⟨p0, q0, -, -⟩ := F.pair0 23 _ _ rfl
    obtain ⟨p1, q1, -, -⟩ := F.pair1 23 _ _ rfl
    have K5 : w'.heap[g5]? = some (.cells #[.int .i32 lt1, .int .i32 lt2] 23 (0, 0)) := blk_below K5 hb
    (try clear K5a K5b)
    have K5a : w'.cell? ⟨g5, 0, none⟩ = some (.int .i32 lt1) := (blk_cell K5 0).trans rfl
    have K5b : w'.cell? ⟨g5, 1, none⟩ = some (.int .i32 lt2) := (blk_cell K5 1).trans rfl
    have K6 : w'.heap[g6]? = some (.cells #[.int .i32 ge1, .int .i32 ge2] 23 (0, 0)) := blk_below K6 hb
    (try clear K6a K6b)
    have K6a : w'.cell? ⟨g6, 0, none⟩ = some (.int .i32 ge1) := (blk_cell K6 0).trans rfl
    have K6b : w'.cell? ⟨g6, 1, none⟩ = some (.int .i32 ge2) := (blk_cell K6 1).trans rfl
    exact ⟨p0, q0, p1, q1, K5a, K5b, K6a, K6b⟩
  intro g7 g8 w2 hb l9 l10 hne K7 K8
  have h9 : w.heap.size + 2 ≤ g7 := Nat.le_trans hsz l9
  have h10 : w.heap.size + 2 ≤ g8 := Nat.le_trans hsz l10
  have F : Fr w w2 [(23, #[.int .i32 a, .int .i32 b]), (23, #[.int .i32 c, .int .i32 d])] := F.call hb
  have K5 : w2.heap[g5]? = some (.cells #[.int .i32 lt1, .int .i32 lt2] 23 (0, 0)) := blk_below K5 hb
  have K5n9 : g5 ≠ g7 := Nat.ne_of_lt (Nat.lt_of_lt_of_le K5lt l9)
  have K5n10 : g5 ≠ g8 := Nat.ne_of_lt (Nat.lt_of_lt_of_le K5lt l10)
  have K6 : w2.heap[g6]? = some (.cells #[.int .i32 ge1, .int .i32 ge2] 23 (0, 0)) := blk_below K6 hb
  have K6n9 : g6 ≠ g7 := Nat.ne_of_lt (Nat.lt_of_lt_of_le K6lt l9)
  have K6n10 : g6 ≠ g8 := Nat.ne_of_lt (Nat.lt_of_lt_of_le K6lt l10)
  simp only [Act.put, List.setIfInBounds_toArray, List.set_cons_zero, List.set_cons_succ, i64_w, i32_w]
  have hne2 : g8 ≠ g7 := Ne.symm hne
  obtain ⟨ca, cb, fa, fb⟩ : w2.cell? ⟨g7, 0, none⟩ = some (.int .i32 0) ∧ w2.cell? ⟨g7, 1, none⟩ = some (.int .i32 0) ∧ w2.frozen? ⟨g7, 0, none⟩ = false ∧ w2.frozen? ⟨g7, 1, none⟩ = false := ⟨(blk_cell K7 0).trans rfl, (blk_cell K7 1).trans rfl, blk_frozen K7 0, blk_frozen K7 1⟩
  refine last_ (i := 8) (N := none) (bl 10 511) rfl rfl (one_of HT_.out (by kernel_rfl)) (by decide) (fun K hK => ?_)
  rw [if_pos (by rfl)]
  go_simp
  refine hK.out _ _ ?_
  clear hK K ca cb fa fb
  have K7 : ((w2.setCell ⟨g7, 0, none⟩ (.int .i32 le1)).setCell ⟨g7, 1, none⟩ (.int .i32 le2)).heap[g7]? = some (.cells #[.int .i32 le1, .int .i32 le2] 23 (0, 0)) := blk_put (cs := #[.int .i32 le1, .int .i32 0]) (blk_put (cs := #[.int .i32 0, .int .i32 0]) K7 0 _ rfl) 1 _ rfl
  have K8 : ((w2.setCell ⟨g7, 0, none⟩ (.int .i32 le1)).setCell ⟨g7, 1, none⟩ (.int .i32 le2)).heap[g8]? = some (.cells #[.int .i32 0, .int .i32 0] 23 (0, 0)) := blk_far (blk_far K8 (p := ⟨g7, 0, none⟩) (by simpa using hne2) _) (p := ⟨g7, 1, none⟩) (by simpa using hne2) _
  have F := (F.far g7 0 (by simpa using h9) (.int .i32 le1)).far g7 1 (by simpa using h9) (.int .i32 le2)
  have K5 : ((w2.setCell ⟨g7, 0, none⟩ (.int .i32 le1)).setCell ⟨g7, 1, none⟩ (.int .i32 le2)).heap[g5]? = some (.cells #[.int .i32 lt1, .int .i32 lt2] 23 (0, 0)) := blk_far (blk_far K5 (p := ⟨g7, 0, none⟩) (by simpa using K5n9) _) (p := ⟨g7, 1, none⟩) (by simpa using K5n9) _
  have K6 : ((w2.setCell ⟨g7, 0, none⟩ (.int .i32 le1)).setCell ⟨g7, 1, none⟩ (.int .i32 le2)).heap[g6]? = some (.cells #[.int .i32 ge1, .int .i32 ge2] 23 (0, 0)) := blk_far (blk_far K6 (p := ⟨g7, 0, none⟩) (by simpa using K6n9) _) (p := ⟨g7, 1, none⟩) (by simpa using K6n9) _
  generalize (w2.setCell ⟨g7, 0, none⟩ (.int .i32 le1)).setCell ⟨g7, 1, none⟩ (.int .i32 le2) = w3 at *
  obtain ⟨ca, cb, fa, fb⟩ : w3.cell? ⟨g8, 0, none⟩ = some (.int .i32 0) ∧ w3.cell? ⟨g8, 1, none⟩ = some (.int .i32 0) ∧ w3.frozen? ⟨g8, 0, none⟩ = false ∧ w3.frozen? ⟨g8, 1, none⟩ = false := ⟨(blk_cell K8 0).trans rfl, (blk_cell K8 1).trans rfl, blk_frozen K8 0, blk_frozen K8 1⟩
  refine last_ (i := 9) (N := none) (bl 10 1023) rfl rfl (one_of HT_.out (by kernel_rfl)) (by decide) (fun K hK => ?_)
  rw [if_pos (by rfl)]
  go_simp
  refine hK.out _ _ ?_
  clear hK K ca cb fa fb
  have K8 : ((w3.setCell ⟨g8, 0, none⟩ (.int .i32 gt1)).setCell ⟨g8, 1, none⟩ (.int .i32 gt2)).heap[g8]? = some (.cells #[.int .i32 gt1, .int .i32 gt2] 23 (0, 0)) := blk_put (cs := #[.int .i32 gt1, .int .i32 0]) (blk_put (cs := #[.int .i32 0, .int .i32 0]) K8 0 _ rfl) 1 _ rfl
  have K7 : ((w3.setCell ⟨g8, 0, none⟩ (.int .i32 gt1)).setCell ⟨g8, 1, none⟩ (.int .i32 gt2)).heap[g7]? = some (.cells #[.int .i32 le1, .int .i32 le2] 23 (0, 0)) := blk_far (blk_far K7 (p := ⟨g8, 0, none⟩) (by simpa using hne) _) (p := ⟨g8, 1, none⟩) (by simpa using hne) _
  have F := (F.far g8 0 (by simpa using h10) (.int .i32 gt1)).far g8 1 (by simpa using h10) (.int .i32 gt2)
  have K5 : ((w3.setCell ⟨g8, 0, none⟩ (.int .i32 gt1)).setCell ⟨g8, 1, none⟩ (.int .i32 gt2)).heap[g5]? = some (.cells #[.int .i32 lt1, .int .i32 lt2] 23 (0, 0)) := blk_far (blk_far K5 (p := ⟨g8, 0, none⟩) (by simpa using K5n10) _) (p := ⟨g8, 1, none⟩) (by simpa using K5n10) _
  have K6 : ((w3.setCell ⟨g8, 0, none⟩ (.int .i32 gt1)).setCell ⟨g8, 1, none⟩ (.int .i32 gt2)).heap[g6]? = some (.cells #[.int .i32 ge1, .int .i32 ge2] 23 (0, 0)) := blk_far (blk_far K6 (p := ⟨g8, 0, none⟩) (by simpa using K6n10) _) (p := ⟨g8, 1, none⟩) (by simpa using K6n10) _
  generalize (w3.setCell ⟨g8, 0, none⟩ (.int .i32 gt1)).setCell ⟨g8, 1, none⟩ (.int .i32 gt2) = w4 at *
  refine done_ (by kernel_rfl) ?_
  (try clear p0 q0 p1 q1)
  obtain ⟨p0, q0, -, -⟩ := F.pair0 23 _ _ rfl
  obtain ⟨p1, q1, -, -⟩ := F.pair1 23 _ _ rfl
  (try clear K7a K7b)
  have K7a : w4.cell? ⟨g7, 0, none⟩ = some (.int .i32 le1) := (blk_cell K7 0).trans rfl
  have K7b : w4.cell? ⟨g7, 1, none⟩ = some (.int .i32 le2) := (blk_cell K7 1).trans rfl
  (try clear K8a K8b)
  have K8a : w4.cell? ⟨g8, 0, none⟩ = some (.int .i32 gt1) := (blk_cell K8 0).trans rfl
  have K8b : w4.cell? ⟨g8, 1, none⟩ = some (.int .i32 gt2) := (blk_cell K8 1).trans rfl
  (try clear K5a K5b)
  have K5a : w4.cell? ⟨g5, 0, none⟩ = some (.int .i32 lt1) := (blk_cell K5 0).trans rfl
  have K5b : w4.cell? ⟨g5, 1, none⟩ = some (.int .i32 lt2) := (blk_cell K5 1).trans rfl
  (try clear K6a K6b)
  have K6a : w4.cell? ⟨g6, 0, none⟩ = some (.int .i32 ge1) := (blk_cell K6 0).trans rfl
  have K6b : w4.cell? ⟨g6, 1, none⟩ = some (.int .i32 ge2) := (blk_cell K6 1).trans rfl
  go_upto_region 5 with fail
  refine start_ (n := 10) (S := fun w' => w'.cell? ⟨w.heap.size, 0, none⟩ = some (.int .i32 a) ∧ w'.cell? ⟨w.heap.size, 1, none⟩ = some (.int .i32 b) ∧ w'.cell? ⟨w.heap.size + 1, 0, none⟩ = some (.int .i32 c) ∧ w'.cell? ⟨w.heap.size + 1, 1, none⟩ = some (.int .i32 d) ∧ w'.cell? ⟨g5, 0, none⟩ = some (.int .i32 lt1) ∧ w'.cell? ⟨g5, 1, none⟩ = some (.int .i32 lt2) ∧ w'.cell? ⟨g6, 0, none⟩ = some (.int .i32 ge1) ∧ w'.cell? ⟨g6, 1, none⟩ = some (.int .i32 ge2) ∧ w'.cell? ⟨g7, 0, none⟩ = some (.int .i32 le1) ∧ w'.cell? ⟨g7, 1, none⟩ = some (.int .i32 le2) ∧ w'.cell? ⟨g8, 0, none⟩ = some (.int .i32 gt1) ∧ w'.cell? ⟨g8, 1, none⟩ = some (.int .i32 gt2)) (ds := [8, 9]) (bl 10 0) (by kernel_rfl) rfl (by kernel_rfl) ⟨p0, q0, p1, q1, K5a, K5b, K6a, K6b, K7a, K7b, K8a, K8b⟩ (fun hHeld => ?_)
  replace F := F.drew
  replace K5 := blk_drew K5
  replace K6 := blk_drew K6
  replace K7 := blk_drew K7
  replace K8 := blk_drew K8
  refine with_tabW tab_8_5 bits_8_5 (fun HT_ HW_ => ?_)
  refine take_ (i := 0) (N := some 41) (v := ?_) (a' := ?_) (bl 10 1) rfl rfl (take_ofW HT_.out HW_.out (by kernel_rfl)) (fun _ _ _ h => h) (Or.inl ⟨by rfl, ?_⟩) hHeld ?_ ?_
  rotate_left
  (rintro w' ⟨s0, s1, s2, s3, s4, s5, s6, s7, s8, s9, s10, s11⟩; go_simp; with_reducible rfl)
  rotate_left
  (simp only [Act.put, List.setIfInBounds_toArray, List.set_cons_zero, List.set_cons_succ, i64_w, i32_w]; rfl)
  refine take_ (i := 1) (N := some 42) (v := ?_) (a' := ?_) (bl 10 3) rfl rfl (take_ofW HT_.out HW_.out (by kernel_rfl)) (fun _ _ _ h => h) (Or.inl ⟨by rfl, ?_⟩) hHeld ?_ ?_
  rotate_left
  (rintro w' ⟨s0, s1, s2, s3, s4, s5, s6, s7, s8, s9, s10, s11⟩; go_simp; with_reducible rfl)
  rotate_left
  (simp only [Act.put, List.setIfInBounds_toArray, List.set_cons_zero, List.set_cons_succ, i64_w, i32_w]; rfl)
  refine take_ (i := 3) (N := some 44) (v := ?_) (a' := ?_) (bl 10 11) rfl rfl (take_ofW HT_.out HW_.out (by kernel_rfl)) (fun _ _ _ h => h) (Or.inl ⟨by rfl, ?_⟩) hHeld ?_ ?_
  rotate_left
  (rintro w' ⟨s0, s1, s2, s3, s4, s5, s6, s7, s8, s9, s10, s11⟩; go_simp; with_reducible rfl)
  rotate_left
  (simp only [Act.put, List.setIfInBounds_toArray, List.set_cons_zero, List.set_cons_succ, i64_w, i32_w]; rfl)
  refine take_ (i := 4) (N := some 45) (v := ?_) (a' := ?_) (bl 10 27) rfl rfl (take_ofW HT_.out HW_.out (by kernel_rfl)) (fun _ _ _ h => h) (Or.inl ⟨by rfl, ?_⟩) hHeld ?_ ?_
  rotate_left
  (rintro w' ⟨s0, s1, s2, s3, s4, s5, s6, s7, s8, s9, s10, s11⟩; go_simp; with_reducible rfl)
  rotate_left
  (simp only [Act.put, List.setIfInBounds_toArray, List.set_cons_zero, List.set_cons_succ, i64_w, i32_w]; rfl)
  have hsz := F.size 1 _ rfl
  have K5lt := blk_lt K5
  have K6lt := blk_lt K6
  have K7lt := blk_lt K7
  have K8lt := blk_lt K8
  refine pair_orders3 (f := 20) (g := 20) (v2 := .agg #[.int .i32 eq1, .int .i32 eq2]) (v5 := .agg #[.int .i32 ne1, .int .i32 ne2]) (z := #[.int .i32 0, .int .i32 0]) (by kernel_rfl) rfl rfl rfl rfl rfl rfl rfl rfl rfl rfl rfl rfl (fun a w => by first | (go_simp; done) | (go_simp; rfl)) rfl rfl (fun a w => by first | (go_simp; done) | (go_simp; rfl)) Try.func20 (by kernel_rfl) rfl (fun w => Qeq.out w) Try.func20 (by kernel_rfl) rfl (fun w => Qne.out w) (by decide) ?hS5 rfl rfl rfl rfl ?hF5
  case hS5 =>
    intro w' hb
    have F : Fr w w' [(23, #[.int .i32 a, .int .i32 b]), (23, #[.int .i32 c, .int .i32 d])] := F.call hb
    (try clear p0 q0 p1 q1)
    obtain ⟨p0, q0, -, -⟩ := F.pair0 23 _ _ rfl
    obtain ⟨p1, q1, -, -⟩ := F.pair1 23 _ _ rfl
    have K5 : w'.heap[g5]? = some (.cells #[.int .i32 lt1, .int .i32 lt2] 23 (0, 0)) := blk_below K5 hb
    (try clear K5a K5b)
    have K5a : w'.cell? ⟨g5, 0, none⟩ = some (.int .i32 lt1) := (blk_cell K5 0).trans rfl
    have K5b : w'.cell? ⟨g5, 1, none⟩ = some (.int .i32 lt2) := (blk_cell K5 1).trans rfl
    have K6 : w'.heap[g6]? = some (.cells #[.int .i32 ge1, .int .i32 ge2] 23 (0, 0)) := blk_below K6 hb
    (try clear K6a K6b)
    have K6a : w'.cell? ⟨g6, 0, none⟩ = some (.int .i32 ge1) := (blk_cell K6 0).trans rfl
    have K6b : w'.cell? ⟨g6, 1, none⟩ = some (.int .i32 ge2) := (blk_cell K6 1).trans rfl
    have K7 : w'.heap[g7]? = some (.cells #[.int .i32 le1, .int .i32 le2] 23 (0, 0)) := blk_below K7 hb
    (try clear K7a K7b)
    have K7a : w'.cell? ⟨g7, 0, none⟩ = some (.int .i32 le1) := (blk_cell K7 0).trans rfl
    have K7b : w'.cell? ⟨g7, 1, none⟩ = some (.int .i32 le2) := (blk_cell K7 1).trans rfl
    have K8 : w'.heap[g8]? = some (.cells #[.int .i32 gt1, .int .i32 gt2] 23 (0, 0)) := blk_below K8 hb
    (try clear K8a K8b)
    have K8a : w'.cell? ⟨g8, 0, none⟩ = some (.int .i32 gt1) := (blk_cell K8 0).trans rfl
    have K8b : w'.cell? ⟨g8, 1, none⟩ = some (.int .i32 gt2) := (blk_cell K8 1).trans rfl
    exact ⟨p0, q0, p1, q1, K5a, K5b, K6a, K6b, K7a, K7b, K8a, K8b⟩
  intro g9 g10 w2 hb l9 l10 hne K9 K10
  have h9 : w.heap.size + 2 ≤ g9 := Nat.le_trans hsz l9
  have h10 : w.heap.size + 2 ≤ g10 := Nat.le_trans hsz l10
  have F : Fr w w2 [(23, #[.int .i32 a, .int .i32 b]), (23, #[.int .i32 c, .int .i32 d])] := F.call hb
  have K5 : w2.heap[g5]? = some (.cells #[.int .i32 lt1, .int .i32 lt2] 23 (0, 0)) := blk_below K5 hb
  have K5n9 : g5 ≠ g9 := Nat.ne_of_lt (Nat.lt_of_lt_of_le K5lt l9)
  have K5n10 : g5 ≠ g10 := Nat.ne_of_lt (Nat.lt_of_lt_of_le K5lt l10)
  have K6 : w2.heap[g6]? = some (.cells #[.int .i32 ge1, .int .i32 ge2] 23 (0, 0)) := blk_below K6 hb
  have K6n9 : g6 ≠ g9 := Nat.ne_of_lt (Nat.lt_of_lt_of_le K6lt l9)
  have K6n10 : g6 ≠ g10 := Nat.ne_of_lt (Nat.lt_of_lt_of_le K6lt l10)
  have K7 : w2.heap[g7]? = some (.cells #[.int .i32 le1, .int .i32 le2] 23 (0, 0)) := blk_below K7 hb
  have K7n9 : g7 ≠ g9 := Nat.ne_of_lt (Nat.lt_of_lt_of_le K7lt l9)
  have K7n10 : g7 ≠ g10 := Nat.ne_of_lt (Nat.lt_of_lt_of_le K7lt l10)
  have K8 : w2.heap[g8]? = some (.cells #[.int .i32 gt1, .int .i32 gt2] 23 (0, 0)) := blk_below K8 hb
  have K8n9 : g8 ≠ g9 := Nat.ne_of_lt (Nat.lt_of_lt_of_le K8lt l9)
  have K8n10 : g8 ≠ g10 := Nat.ne_of_lt (Nat.lt_of_lt_of_le K8lt l10)
  simp only [Act.put, List.setIfInBounds_toArray, List.set_cons_zero, List.set_cons_succ, i64_w, i32_w]
  have hne2 : g10 ≠ g9 := Ne.symm hne
  obtain ⟨ca, cb, fa, fb⟩ : w2.cell? ⟨g9, 0, none⟩ = some (.int .i32 0) ∧ w2.cell? ⟨g9, 1, none⟩ = some (.int .i32 0) ∧ w2.frozen? ⟨g9, 0, none⟩ = false ∧ w2.frozen? ⟨g9, 1, none⟩ = false := ⟨(blk_cell K9 0).trans rfl, (blk_cell K9 1).trans rfl, blk_frozen K9 0, blk_frozen K9 1⟩
  refine last_ (i := 8) (N := none) (bl 10 511) rfl rfl (one_of HT_.out (by kernel_rfl)) (by decide) (fun K hK => ?_)
  rw [if_pos (by rfl)]
  go_simp
  refine hK.out _ _ ?_
  clear hK K ca cb fa fb
  have K9 : ((w2.setCell ⟨g9, 0, none⟩ (.int .i32 eq1)).setCell ⟨g9, 1, none⟩ (.int .i32 eq2)).heap[g9]? = some (.cells #[.int .i32 eq1, .int .i32 eq2] 23 (0, 0)) := blk_put (cs := #[.int .i32 eq1, .int .i32 0]) (blk_put (cs := #[.int .i32 0, .int .i32 0]) K9 0 _ rfl) 1 _ rfl
  have K10 : ((w2.setCell ⟨g9, 0, none⟩ (.int .i32 eq1)).setCell ⟨g9, 1, none⟩ (.int .i32 eq2)).heap[g10]? = some (.cells #[.int .i32 0, .int .i32 0] 23 (0, 0)) := blk_far (blk_far K10 (p := ⟨g9, 0, none⟩) (by simpa using hne2) _) (p := ⟨g9, 1, none⟩) (by simpa using hne2) _
  have F := (F.far g9 0 (by simpa using h9) (.int .i32 eq1)).far g9 1 (by simpa using h9) (.int .i32 eq2)
  have K5 : ((w2.setCell ⟨g9, 0, none⟩ (.int .i32 eq1)).setCell ⟨g9, 1, none⟩ (.int .i32 eq2)).heap[g5]? = some (.cells #[.int .i32 lt1, .int .i32 lt2] 23 (0, 0)) := blk_far (blk_far K5 (p := ⟨g9, 0, none⟩) (by simpa using K5n9) _) (p := ⟨g9, 1, none⟩) (by simpa using K5n9) _
  have K6 : ((w2.setCell ⟨g9, 0, none⟩ (.int .i32 eq1)).setCell ⟨g9, 1, none⟩ (.int .i32 eq2)).heap[g6]? = some (.cells #[.int .i32 ge1, .int .i32 ge2] 23 (0, 0)) := blk_far (blk_far K6 (p := ⟨g9, 0, none⟩) (by simpa using K6n9) _) (p := ⟨g9, 1, none⟩) (by simpa using K6n9) _
  have K7 : ((w2.setCell ⟨g9, 0, none⟩ (.int .i32 eq1)).setCell ⟨g9, 1, none⟩ (.int .i32 eq2)).heap[g7]? = some (.cells #[.int .i32 le1, .int .i32 le2] 23 (0, 0)) := blk_far (blk_far K7 (p := ⟨g9, 0, none⟩) (by simpa using K7n9) _) (p := ⟨g9, 1, none⟩) (by simpa using K7n9) _
  have K8 : ((w2.setCell ⟨g9, 0, none⟩ (.int .i32 eq1)).setCell ⟨g9, 1, none⟩ (.int .i32 eq2)).heap[g8]? = some (.cells #[.int .i32 gt1, .int .i32 gt2] 23 (0, 0)) := blk_far (blk_far K8 (p := ⟨g9, 0, none⟩) (by simpa using K8n9) _) (p := ⟨g9, 1, none⟩) (by simpa using K8n9) _
  generalize (w2.setCell ⟨g9, 0, none⟩ (.int .i32 eq1)).setCell ⟨g9, 1, none⟩ (.int .i32 eq2) = w3 at *
  obtain ⟨ca, cb, fa, fb⟩ : w3.cell? ⟨g10, 0, none⟩ = some (.int .i32 0) ∧ w3.cell? ⟨g10, 1, none⟩ = some (.int .i32 0) ∧ w3.frozen? ⟨g10, 0, none⟩ = false ∧ w3.frozen? ⟨g10, 1, none⟩ = false := ⟨(blk_cell K10 0).trans rfl, (blk_cell K10 1).trans rfl, blk_frozen K10 0, blk_frozen K10 1⟩
  refine last_ (i := 9) (N := none) (bl 10 1023) rfl rfl (one_of HT_.out (by kernel_rfl)) (by decide) (fun K hK => ?_)
  rw [if_pos (by rfl)]
  go_simp
  refine hK.out _ _ ?_
  clear hK K ca cb fa fb
  have K10 : ((w3.setCell ⟨g10, 0, none⟩ (.int .i32 ne1)).setCell ⟨g10, 1, none⟩ (.int .i32 ne2)).heap[g10]? = some (.cells #[.int .i32 ne1, .int .i32 ne2] 23 (0, 0)) := blk_put (cs := #[.int .i32 ne1, .int .i32 0]) (blk_put (cs := #[.int .i32 0, .int .i32 0]) K10 0 _ rfl) 1 _ rfl
  have K9 : ((w3.setCell ⟨g10, 0, none⟩ (.int .i32 ne1)).setCell ⟨g10, 1, none⟩ (.int .i32 ne2)).heap[g9]? = some (.cells #[.int .i32 eq1, .int .i32 eq2] 23 (0, 0)) := blk_far (blk_far K9 (p := ⟨g10, 0, none⟩) (by simpa using hne) _) (p := ⟨g10, 1, none⟩) (by simpa using hne) _
  have F := (F.far g10 0 (by simpa using h10) (.int .i32 ne1)).far g10 1 (by simpa using h10) (.int .i32 ne2)
  have K5 : ((w3.setCell ⟨g10, 0, none⟩ (.int .i32 ne1)).setCell ⟨g10, 1, none⟩ (.int .i32 ne2)).heap[g5]? = some (.cells #[.int .i32 lt1, .int .i32 lt2] 23 (0, 0)) := blk_far (blk_far K5 (p := ⟨g10, 0, none⟩) (by simpa using K5n10) _) (p := ⟨g10, 1, none⟩) (by simpa using K5n10) _
  have K6 : ((w3.setCell ⟨g10, 0, none⟩ (.int .i32 ne1)).setCell ⟨g10, 1, none⟩ (.int .i32 ne2)).heap[g6]? = some (.cells #[.int .i32 ge1, .int .i32 ge2] 23 (0, 0)) := blk_far (blk_far K6 (p := ⟨g10, 0, none⟩) (by simpa using K6n10) _) (p := ⟨g10, 1, none⟩) (by simpa using K6n10) _
  have K7 : ((w3.setCell ⟨g10, 0, none⟩ (.int .i32 ne1)).setCell ⟨g10, 1, none⟩ (.int .i32 ne2)).heap[g7]? = some (.cells #[.int .i32 le1, .int .i32 le2] 23 (0, 0)) := blk_far (blk_far K7 (p := ⟨g10, 0, none⟩) (by simpa using K7n10) _) (p := ⟨g10, 1, none⟩) (by simpa using K7n10) _
  have K8 : ((w3.setCell ⟨g10, 0, none⟩ (.int .i32 ne1)).setCell ⟨g10, 1, none⟩ (.int .i32 ne2)).heap[g8]? = some (.cells #[.int .i32 gt1, .int .i32 gt2] 23 (0, 0)) := blk_far (blk_far K8 (p := ⟨g10, 0, none⟩) (by simpa using K8n10) _) (p := ⟨g10, 1, none⟩) (by simpa using K8n10) _
  generalize (w3.setCell ⟨g10, 0, none⟩ (.int .i32 ne1)).setCell ⟨g10, 1, none⟩ (.int .i32 ne2) = w4 at *
  refine done_ (by kernel_rfl) ?_
  (try clear p0 q0 p1 q1)
  obtain ⟨p0, q0, -, -⟩ := F.pair0 23 _ _ rfl
  obtain ⟨p1, q1, -, -⟩ := F.pair1 23 _ _ rfl
  (try clear K9a K9b)
  have K9a : w4.cell? ⟨g9, 0, none⟩ = some (.int .i32 eq1) := (blk_cell K9 0).trans rfl
  have K9b : w4.cell? ⟨g9, 1, none⟩ = some (.int .i32 eq2) := (blk_cell K9 1).trans rfl
  (try clear K10a K10b)
  have K10a : w4.cell? ⟨g10, 0, none⟩ = some (.int .i32 ne1) := (blk_cell K10 0).trans rfl
  have K10b : w4.cell? ⟨g10, 1, none⟩ = some (.int .i32 ne2) := (blk_cell K10 1).trans rfl
  (try clear K5a K5b)
  have K5a : w4.cell? ⟨g5, 0, none⟩ = some (.int .i32 lt1) := (blk_cell K5 0).trans rfl
  have K5b : w4.cell? ⟨g5, 1, none⟩ = some (.int .i32 lt2) := (blk_cell K5 1).trans rfl
  (try clear K6a K6b)
  have K6a : w4.cell? ⟨g6, 0, none⟩ = some (.int .i32 ge1) := (blk_cell K6 0).trans rfl
  have K6b : w4.cell? ⟨g6, 1, none⟩ = some (.int .i32 ge2) := (blk_cell K6 1).trans rfl
  (try clear K7a K7b)
  have K7a : w4.cell? ⟨g7, 0, none⟩ = some (.int .i32 le1) := (blk_cell K7 0).trans rfl
  have K7b : w4.cell? ⟨g7, 1, none⟩ = some (.int .i32 le2) := (blk_cell K7 1).trans rfl
  (try clear K8a K8b)
  have K8a : w4.cell? ⟨g8, 0, none⟩ = some (.int .i32 gt1) := (blk_cell K8 0).trans rfl
  have K8b : w4.cell? ⟨g8, 1, none⟩ = some (.int .i32 gt2) := (blk_cell K8 1).trans rfl
  go_upto_region 7 with fail
  have hc5 : ct eq1 eq2 1 = (decide (a ≤ d) && decide (c ≤ b)) := by rw [Hc5.out, Bool.decide_and]
  have had2 : (∃ r, Hid (ct eq1 eq2 1 = r) ∧ a ≤ d ∧ decide (a ≤ d) = true ∧ r = decide (c ≤ b)) ∨ (∃ r, Hid (ct eq1 eq2 1 = r) ∧ ¬ a ≤ d ∧ decide (a ≤ d) = false ∧ r = false) := by
    rcases Int.lt_or_le d a with had | had
    · right; exact ⟨false, Lib.hid (by rw [hc5, decide_eq_false (Int.not_le.mpr had)]; rfl), Int.not_le.mpr had, decide_eq_false (Int.not_le.mpr had), rfl⟩
    · left; exact ⟨decide (c ≤ b), Lib.hid (by rw [hc5, decide_eq_true had]; rfl), had, decide_eq_true had, rfl⟩
  clear hc5
  rcases had2 with ⟨r, HR, had, hadd, rfl⟩ | ⟨r, HR, had, hadd, rfl⟩
  all_goals
    refine start_ (n := 77) (S := fun w' => w'.cell? ⟨w.heap.size, 0, none⟩ = some (.int .i32 a) ∧ w'.cell? ⟨w.heap.size, 1, none⟩ = some (.int .i32 b) ∧ w'.cell? ⟨w.heap.size + 1, 0, none⟩ = some (.int .i32 c) ∧ w'.cell? ⟨w.heap.size + 1, 1, none⟩ = some (.int .i32 d) ∧ w'.cell? ⟨g5, 0, none⟩ = some (.int .i32 lt1) ∧ w'.cell? ⟨g5, 1, none⟩ = some (.int .i32 lt2) ∧ w'.cell? ⟨g6, 0, none⟩ = some (.int .i32 ge1) ∧ w'.cell? ⟨g6, 1, none⟩ = some (.int .i32 ge2) ∧ w'.cell? ⟨g7, 0, none⟩ = some (.int .i32 le1) ∧ w'.cell? ⟨g7, 1, none⟩ = some (.int .i32 le2) ∧ w'.cell? ⟨g8, 0, none⟩ = some (.int .i32 gt1) ∧ w'.cell? ⟨g8, 1, none⟩ = some (.int .i32 gt2) ∧ w'.cell? ⟨g9, 0, none⟩ = some (.int .i32 eq1) ∧ w'.cell? ⟨g9, 1, none⟩ = some (.int .i32 eq2) ∧ w'.cell? ⟨g10, 0, none⟩ = some (.int .i32 ne1) ∧ w'.cell? ⟨g10, 1, none⟩ = some (.int .i32 ne2)) (ds := []) (bl 77 0) (by kernel_rfl) rfl (by kernel_rfl) ⟨p0, q0, p1, q1, K5a, K5b, K6a, K6b, K7a, K7b, K8a, K8b, K9a, K9b, K10a, K10b⟩ (fun hHeld => ?_)
    replace F := F.drew
    replace K5 := blk_drew K5
    replace K6 := blk_drew K6
    replace K7 := blk_drew K7
    replace K8 := blk_drew K8
    replace K9 := blk_drew K9
    replace K10 := blk_drew K10
    refine with_tabW tab_8_7 bits_8_7 (fun HT_ HW_ => ?_)
    refine take_ (i := 0) (N := some 47) (v := ?_) (a' := ?_) (bl 77 1) rfl rfl (take_ofW HT_.out HW_.out (by kernel_rfl)) (fun _ _ _ h => h) (Or.inl ⟨by rfl, ?_⟩) hHeld ?_ ?_
    rotate_left
    (rintro w' ⟨s0, s1, s2, s3, s4, s5, s6, s7, s8, s9, s10, s11, s12, s13, s14, s15⟩; go_simp; with_reducible rfl)
    rotate_left
    (simp only [Act.put, List.setIfInBounds_toArray, List.set_cons_zero, List.set_cons_succ, i64_w, i32_w]; rfl)
    refine pure_ (i := 2) (N := some 49) (v := ?_) (a' := ?_) (bl 77 5) rfl rfl (any_of HT_.out (by kernel_rfl)) (fun _ _ _ h => h) (Or.inl ⟨by rfl, ?_⟩) ?_ ?_
    rotate_left
    (intro w'; go_simp; with_reducible rfl)
    rotate_left
    (simp only [Act.put, List.setIfInBounds_toArray, List.set_cons_zero, List.set_cons_succ, i64_w, i32_w]; rfl)
    refine take_ (i := 3) (N := some 50) (v := ?_) (a' := ?_) (bl 77 13) rfl rfl (take_ofW HT_.out HW_.out (by kernel_rfl)) (fun _ _ _ h => h) (Or.inl ⟨by rfl, ?_⟩) hHeld ?_ ?_
    rotate_left
    (rintro w' ⟨s0, s1, s2, s3, s4, s5, s6, s7, s8, s9, s10, s11, s12, s13, s14, s15⟩; go_simp; with_reducible rfl)
    rotate_left
    (simp only [Act.put, List.setIfInBounds_toArray, List.set_cons_zero, List.set_cons_succ, i64_w, i32_w]; rfl)
    refine pure_ (i := 4) (N := some 51) (v := ?_) (a' := ?_) (bl 77 29) rfl rfl (any_of HT_.out (by kernel_rfl)) (fun _ _ _ h => h) (Or.inl ⟨by rfl, ?_⟩) ?_ ?_
    rotate_left
    (intro w'; go_simp; with_reducible rfl)
    rotate_left
    (simp only [Act.put, List.setIfInBounds_toArray, List.set_cons_zero, List.set_cons_succ, i64_w, i32_w]; rfl)
    refine take_ (i := 5) (N := some 52) (v := ?_) (a' := ?_) (bl 77 61) rfl rfl (take_ofW HT_.out HW_.out (by kernel_rfl)) (fun _ _ _ h => h) (Or.inl ⟨by rfl, ?_⟩) hHeld ?_ ?_
    rotate_left
    (rintro w' ⟨s0, s1, s2, s3, s4, s5, s6, s7, s8, s9, s10, s11, s12, s13, s14, s15⟩; go_simp; with_reducible rfl)
    rotate_left
    (simp only [Act.put, List.setIfInBounds_toArray, List.set_cons_zero, List.set_cons_succ, i64_w, i32_w]; rfl)
    refine pure_ (i := 6) (N := some 53) (v := ?_) (a' := ?_) (bl 77 125) rfl rfl (any_of HT_.out (by kernel_rfl)) (fun _ _ _ h => h) (Or.inl ⟨by rfl, ?_⟩) ?_ ?_
    rotate_left
    (intro w'; go_simp; with_reducible rfl)
    rotate_left
    (simp only [Act.put, List.setIfInBounds_toArray, List.set_cons_zero, List.set_cons_succ, i64_w, i32_w]; rfl)
    refine one_ (i := 1) (N := some 48) (bl 77 127) rfl rfl (one_of HT_.out (by kernel_rfl)) (by decide) (fun K hK => ?_)
    rw [if_pos (by rfl)]
    go_simp
    go_at_call 15
    (with_reducible refine (contains_r lt1 lt2 1 _ Hc1.out _).mono ?_)
    rintro e w1 ⟨rfl, hb⟩
    replace F : Fr w w1 [(23, #[.int .i32 a, .int .i32 b]), (23, #[.int .i32 c, .int .i32 d])] := (by first | exact F.call hb | exact F.drew.call hb | exact (F.drewN _).call hb)
    (try clear p0 q0 p1 q1)
    obtain ⟨p0, q0, -, -⟩ := F.pair0 23 _ _ rfl
    obtain ⟨p1, q1, -, -⟩ := F.pair1 23 _ _ rfl
    replace K5 : w1.heap[g5]? = some (.cells #[.int .i32 lt1, .int .i32 lt2] 23 (0, 0)) := blk_below K5 hb
    (try clear K5a K5b)
    have K5a : w1.cell? ⟨g5, 0, none⟩ = some (.int .i32 lt1) := (blk_cell K5 0).trans rfl
    have K5b : w1.cell? ⟨g5, 1, none⟩ = some (.int .i32 lt2) := (blk_cell K5 1).trans rfl
    replace K6 : w1.heap[g6]? = some (.cells #[.int .i32 ge1, .int .i32 ge2] 23 (0, 0)) := blk_below K6 hb
    (try clear K6a K6b)
    have K6a : w1.cell? ⟨g6, 0, none⟩ = some (.int .i32 ge1) := (blk_cell K6 0).trans rfl
    have K6b : w1.cell? ⟨g6, 1, none⟩ = some (.int .i32 ge2) := (blk_cell K6 1).trans rfl
    replace K7 : w1.heap[g7]? = some (.cells #[.int .i32 le1, .int .i32 le2] 23 (0, 0)) := blk_below K7 hb
    (try clear K7a K7b)
    have K7a : w1.cell? ⟨g7, 0, none⟩ = some (.int .i32 le1) := (blk_cell K7 0).trans rfl
    have K7b : w1.cell? ⟨g7, 1, none⟩ = some (.int .i32 le2) := (blk_cell K7 1).trans rfl
    replace K8 : w1.heap[g8]? = some (.cells #[.int .i32 gt1, .int .i32 gt2] 23 (0, 0)) := blk_below K8 hb
    (try clear K8a K8b)
    have K8a : w1.cell? ⟨g8, 0, none⟩ = some (.int .i32 gt1) := (blk_cell K8 0).trans rfl
    have K8b : w1.cell? ⟨g8, 1, none⟩ = some (.int .i32 gt2) := (blk_cell K8 1).trans rfl
    replace K9 : w1.heap[g9]? = some (.cells #[.int .i32 eq1, .int .i32 eq2] 23 (0, 0)) := blk_below K9 hb
    (try clear K9a K9b)
    have K9a : w1.cell? ⟨g9, 0, none⟩ = some (.int .i32 eq1) := (blk_cell K9 0).trans rfl
    have K9b : w1.cell? ⟨g9, 1, none⟩ = some (.int .i32 eq2) := (blk_cell K9 1).trans rfl
    replace K10 : w1.heap[g10]? = some (.cells #[.int .i32 ne1, .int .i32 ne2] 23 (0, 0)) := blk_below K10 hb
    (try clear K10a K10b)
    have K10a : w1.cell? ⟨g10, 0, none⟩ = some (.int .i32 ne1) := (blk_cell K10 0).trans rfl
    have K10b : w1.cell? ⟨g10, 1, none⟩ = some (.int .i32 ne2) := (blk_cell K10 1).trans rfl
    clear hb
    refine hK.out _ _ ⟨p0, q0, p1, q1, K5a, K5b, K6a, K6b, K7a, K7b, K8a, K8b, K9a, K9b, K10a, K10b⟩ (fun hHeld => ?_)
    clear hK K
    refine pure_ (i := 7) (N := some 54) (v := ?_) (a' := ?_) (bl 77 255) rfl rfl (any_of HT_.out (by kernel_rfl)) (fun _ _ _ h => h) (Or.inl ⟨by rfl, ?_⟩) ?_ ?_
    rotate_left
    (intro w'; go_simp; with_reducible rfl)
    rotate_left
    (simp only [Act.put, List.setIfInBounds_toArray, List.set_cons_zero, List.set_cons_succ, i64_w, i32_w]; rfl)
    refine pure_ (i := 8) (N := some 55) (v := ?_) (a' := ?_) (bl 77 511) rfl rfl (any_of HT_.out (by kernel_rfl)) (fun _ _ _ h => h) (Or.inl ⟨by rfl, ?_⟩) ?_ ?_
    rotate_left
    (intro w'; go_simp; with_reducible rfl)
    rotate_left
    (simp only [Act.put, List.setIfInBounds_toArray, List.set_cons_zero, List.set_cons_succ, i64_w, i32_w]; rfl)
    refine take_ (i := 9) (N := some 56) (v := ?_) (a' := ?_) (bl 77 1023) rfl rfl (take_ofW HT_.out HW_.out (by kernel_rfl)) (fun _ _ _ h => h) (Or.inl ⟨by rfl, ?_⟩) hHeld ?_ ?_
    rotate_left
    (rintro w' ⟨s0, s1, s2, s3, s4, s5, s6, s7, s8, s9, s10, s11, s12, s13, s14, s15⟩; go_simp; with_reducible rfl)
    rotate_left
    (simp only [Act.put, List.setIfInBounds_toArray, List.set_cons_zero, List.set_cons_succ, i64_w, i32_w]; rfl)
    refine pure_ (i := 11) (N := some 58) (v := ?_) (a' := ?_) (bl 77 3071) rfl rfl (any_of HT_.out (by kernel_rfl)) (fun _ _ _ h => h) (Or.inl ⟨by rfl, ?_⟩) ?_ ?_
    rotate_left
    (intro w'; go_simp; with_reducible rfl)
    rotate_left
    (simp only [Act.put, List.setIfInBounds_toArray, List.set_cons_zero, List.set_cons_succ, i64_w, i32_w]; rfl)
    refine take_ (i := 12) (N := some 59) (v := ?_) (a' := ?_) (bl 77 7167) rfl rfl (take_ofW HT_.out HW_.out (by kernel_rfl)) (fun _ _ _ h => h) (Or.inl ⟨by rfl, ?_⟩) hHeld ?_ ?_
    rotate_left
    (rintro w' ⟨s0, s1, s2, s3, s4, s5, s6, s7, s8, s9, s10, s11, s12, s13, s14, s15⟩; go_simp; with_reducible rfl)
    rotate_left
    (simp only [Act.put, List.setIfInBounds_toArray, List.set_cons_zero, List.set_cons_succ, i64_w, i32_w]; rfl)
    refine pure_ (i := 13) (N := some 60) (v := ?_) (a' := ?_) (bl 77 15359) rfl rfl (any_of HT_.out (by kernel_rfl)) (fun _ _ _ h => h) (Or.inl ⟨by rfl, ?_⟩) ?_ ?_
    rotate_left
    (intro w'; go_simp; with_reducible rfl)
    rotate_left
    (simp only [Act.put, List.setIfInBounds_toArray, List.set_cons_zero, List.set_cons_succ, i64_w, i32_w]; rfl)
    refine take_ (i := 14) (N := some 61) (v := ?_) (a' := ?_) (bl 77 31743) rfl rfl (take_ofW HT_.out HW_.out (by kernel_rfl)) (fun _ _ _ h => h) (Or.inl ⟨by rfl, ?_⟩) hHeld ?_ ?_
    rotate_left
    (rintro w' ⟨s0, s1, s2, s3, s4, s5, s6, s7, s8, s9, s10, s11, s12, s13, s14, s15⟩; go_simp; with_reducible rfl)
    rotate_left
    (simp only [Act.put, List.setIfInBounds_toArray, List.set_cons_zero, List.set_cons_succ, i64_w, i32_w]; rfl)
    refine pure_ (i := 15) (N := some 62) (v := ?_) (a' := ?_) (bl 77 64511) rfl rfl (any_of HT_.out (by kernel_rfl)) (fun _ _ _ h => h) (Or.inl ⟨by rfl, ?_⟩) ?_ ?_
    rotate_left
    (intro w'; go_simp; with_reducible rfl)
    rotate_left
    (simp only [Act.put, List.setIfInBounds_toArray, List.set_cons_zero, List.set_cons_succ, i64_w, i32_w]; rfl)
    refine one_ (i := 10) (N := some 57) (bl 77 65535) rfl rfl (one_of HT_.out (by kernel_rfl)) (by decide) (fun K hK => ?_)
    rw [if_pos (by rfl)]
    go_simp
    go_at_call 15
    (with_reducible refine (contains_r lt1 lt2 0 _ Hc2.out _).mono ?_)
    rintro e w1 ⟨rfl, hb⟩
    replace F : Fr w w1 [(23, #[.int .i32 a, .int .i32 b]), (23, #[.int .i32 c, .int .i32 d])] := (by first | exact F.call hb | exact F.drew.call hb | exact (F.drewN _).call hb)
    (try clear p0 q0 p1 q1)
    obtain ⟨p0, q0, -, -⟩ := F.pair0 23 _ _ rfl
    obtain ⟨p1, q1, -, -⟩ := F.pair1 23 _ _ rfl
    replace K5 : w1.heap[g5]? = some (.cells #[.int .i32 lt1, .int .i32 lt2] 23 (0, 0)) := blk_below K5 hb
    (try clear K5a K5b)
    have K5a : w1.cell? ⟨g5, 0, none⟩ = some (.int .i32 lt1) := (blk_cell K5 0).trans rfl
    have K5b : w1.cell? ⟨g5, 1, none⟩ = some (.int .i32 lt2) := (blk_cell K5 1).trans rfl
    replace K6 : w1.heap[g6]? = some (.cells #[.int .i32 ge1, .int .i32 ge2] 23 (0, 0)) := blk_below K6 hb
    (try clear K6a K6b)
    have K6a : w1.cell? ⟨g6, 0, none⟩ = some (.int .i32 ge1) := (blk_cell K6 0).trans rfl
    have K6b : w1.cell? ⟨g6, 1, none⟩ = some (.int .i32 ge2) := (blk_cell K6 1).trans rfl
    replace K7 : w1.heap[g7]? = some (.cells #[.int .i32 le1, .int .i32 le2] 23 (0, 0)) := blk_below K7 hb
    (try clear K7a K7b)
    have K7a : w1.cell? ⟨g7, 0, none⟩ = some (.int .i32 le1) := (blk_cell K7 0).trans rfl
    have K7b : w1.cell? ⟨g7, 1, none⟩ = some (.int .i32 le2) := (blk_cell K7 1).trans rfl
    replace K8 : w1.heap[g8]? = some (.cells #[.int .i32 gt1, .int .i32 gt2] 23 (0, 0)) := blk_below K8 hb
    (try clear K8a K8b)
    have K8a : w1.cell? ⟨g8, 0, none⟩ = some (.int .i32 gt1) := (blk_cell K8 0).trans rfl
    have K8b : w1.cell? ⟨g8, 1, none⟩ = some (.int .i32 gt2) := (blk_cell K8 1).trans rfl
    replace K9 : w1.heap[g9]? = some (.cells #[.int .i32 eq1, .int .i32 eq2] 23 (0, 0)) := blk_below K9 hb
    (try clear K9a K9b)
    have K9a : w1.cell? ⟨g9, 0, none⟩ = some (.int .i32 eq1) := (blk_cell K9 0).trans rfl
    have K9b : w1.cell? ⟨g9, 1, none⟩ = some (.int .i32 eq2) := (blk_cell K9 1).trans rfl
    replace K10 : w1.heap[g10]? = some (.cells #[.int .i32 ne1, .int .i32 ne2] 23 (0, 0)) := blk_below K10 hb
    (try clear K10a K10b)
    have K10a : w1.cell? ⟨g10, 0, none⟩ = some (.int .i32 ne1) := (blk_cell K10 0).trans rfl
    have K10b : w1.cell? ⟨g10, 1, none⟩ = some (.int .i32 ne2) := (blk_cell K10 1).trans rfl
    clear hb
    refine hK.out _ _ ⟨p0, q0, p1, q1, K5a, K5b, K6a, K6b, K7a, K7b, K8a, K8b, K9a, K9b, K10a, K10b⟩ (fun hHeld => ?_)
    clear hK K
    refine pure_ (i := 16) (N := some 63) (v := ?_) (a' := ?_) (bl 77 131071) rfl rfl (any_of HT_.out (by kernel_rfl)) (fun _ _ _ h => h) (Or.inl ⟨by rfl, ?_⟩) ?_ ?_
    rotate_left
    (intro w'; go_simp; with_reducible rfl)
    rotate_left
    (simp only [Act.put, List.setIfInBounds_toArray, List.set_cons_zero, List.set_cons_succ, i64_w, i32_w]; rfl)
    refine pure_ (i := 17) (N := some 64) (v := ?_) (a' := ?_) (bl 77 262143) rfl rfl (any_of HT_.out (by kernel_rfl)) (fun _ _ _ h => h) (Or.inl ⟨by rfl, ?_⟩) ?_ ?_
    rotate_left
    (intro w'; go_simp; with_reducible rfl)
    rotate_left
    (simp only [Act.put, List.setIfInBounds_toArray, List.set_cons_zero, List.set_cons_succ, i64_w, i32_w]; rfl)
    refine pure_ (i := 18) (N := some 65) (v := ?_) (a' := ?_) (bl 77 524287) rfl rfl (any_of HT_.out (by kernel_rfl)) (fun _ _ _ h => h) (Or.inl ⟨by rfl, ?_⟩) ?_ ?_
    rotate_left
    (intro w'; go_simp; with_reducible rfl)
    rotate_left
    (simp only [Act.put, List.setIfInBounds_toArray, List.set_cons_zero, List.set_cons_succ, i64_w, i32_w]; rfl)
    refine take_ (i := 19) (N := some 66) (v := ?_) (a' := ?_) (bl 77 1048575) rfl rfl (take_ofW HT_.out HW_.out (by kernel_rfl)) (fun _ _ _ h => h) (Or.inl ⟨by rfl, ?_⟩) hHeld ?_ ?_
    rotate_left
    (rintro w' ⟨s0, s1, s2, s3, s4, s5, s6, s7, s8, s9, s10, s11, s12, s13, s14, s15⟩; go_simp; with_reducible rfl)
    rotate_left
    (simp only [Act.put, List.setIfInBounds_toArray, List.set_cons_zero, List.set_cons_succ, i64_w, i32_w]; rfl)
    refine pure_ (i := 21) (N := some 68) (v := ?_) (a' := ?_) (bl 77 3145727) rfl rfl (any_of HT_.out (by kernel_rfl)) (fun _ _ _ h => h) (Or.inl ⟨by rfl, ?_⟩) ?_ ?_
    rotate_left
    (intro w'; go_simp; with_reducible rfl)
    rotate_left
    (simp only [Act.put, List.setIfInBounds_toArray, List.set_cons_zero, List.set_cons_succ, i64_w, i32_w]; rfl)
    refine take_ (i := 22) (N := some 69) (v := ?_) (a' := ?_) (bl 77 7340031) rfl rfl (take_ofW HT_.out HW_.out (by kernel_rfl)) (fun _ _ _ h => h) (Or.inl ⟨by rfl, ?_⟩) hHeld ?_ ?_
    rotate_left
    (rintro w' ⟨s0, s1, s2, s3, s4, s5, s6, s7, s8, s9, s10, s11, s12, s13, s14, s15⟩; go_simp; with_reducible rfl)
    rotate_left
    (simp only [Act.put, List.setIfInBounds_toArray, List.set_cons_zero, List.set_cons_succ, i64_w, i32_w]; rfl)
    refine pure_ (i := 23) (N := some 70) (v := ?_) (a' := ?_) (bl 77 15728639) rfl rfl (any_of HT_.out (by kernel_rfl)) (fun _ _ _ h => h) (Or.inl ⟨by rfl, ?_⟩) ?_ ?_
    rotate_left
    (intro w'; go_simp; with_reducible rfl)
    rotate_left
    (simp only [Act.put, List.setIfInBounds_toArray, List.set_cons_zero, List.set_cons_succ, i64_w, i32_w]; rfl)
    refine take_ (i := 24) (N := some 71) (v := ?_) (a' := ?_) (bl 77 32505855) rfl rfl (take_ofW HT_.out HW_.out (by kernel_rfl)) (fun _ _ _ h => h) (Or.inl ⟨by rfl, ?_⟩) hHeld ?_ ?_
    rotate_left
    (rintro w' ⟨s0, s1, s2, s3, s4, s5, s6, s7, s8, s9, s10, s11, s12, s13, s14, s15⟩; go_simp; with_reducible rfl)
    rotate_left
    (simp only [Act.put, List.setIfInBounds_toArray, List.set_cons_zero, List.set_cons_succ, i64_w, i32_w]; rfl)
    refine pure_ (i := 25) (N := some 72) (v := ?_) (a' := ?_) (bl 77 66060287) rfl rfl (any_of HT_.out (by kernel_rfl)) (fun _ _ _ h => h) (Or.inl ⟨by rfl, ?_⟩) ?_ ?_
    rotate_left
    (intro w'; go_simp; with_reducible rfl)
    rotate_left
    (simp only [Act.put, List.setIfInBounds_toArray, List.set_cons_zero, List.set_cons_succ, i64_w, i32_w]; rfl)
    refine one_ (i := 20) (N := some 67) (bl 77 67108863) rfl rfl (one_of HT_.out (by kernel_rfl)) (by decide) (fun K hK => ?_)
    rw [if_pos (by rfl)]
    go_simp
    go_at_call 15
    (with_reducible refine (contains_r le1 le2 1 _ Hc3.out _).mono ?_)
    rintro e w1 ⟨rfl, hb⟩
    replace F : Fr w w1 [(23, #[.int .i32 a, .int .i32 b]), (23, #[.int .i32 c, .int .i32 d])] := (by first | exact F.call hb | exact F.drew.call hb | exact (F.drewN _).call hb)
    (try clear p0 q0 p1 q1)
    obtain ⟨p0, q0, -, -⟩ := F.pair0 23 _ _ rfl
    obtain ⟨p1, q1, -, -⟩ := F.pair1 23 _ _ rfl
    replace K5 : w1.heap[g5]? = some (.cells #[.int .i32 lt1, .int .i32 lt2] 23 (0, 0)) := blk_below K5 hb
    (try clear K5a K5b)
    have K5a : w1.cell? ⟨g5, 0, none⟩ = some (.int .i32 lt1) := (blk_cell K5 0).trans rfl
    have K5b : w1.cell? ⟨g5, 1, none⟩ = some (.int .i32 lt2) := (blk_cell K5 1).trans rfl
    replace K6 : w1.heap[g6]? = some (.cells #[.int .i32 ge1, .int .i32 ge2] 23 (0, 0)) := blk_below K6 hb
    (try clear K6a K6b)
    have K6a : w1.cell? ⟨g6, 0, none⟩ = some (.int .i32 ge1) := (blk_cell K6 0).trans rfl
    have K6b : w1.cell? ⟨g6, 1, none⟩ = some (.int .i32 ge2) := (blk_cell K6 1).trans rfl
    replace K7 : w1.heap[g7]? = some (.cells #[.int .i32 le1, .int .i32 le2] 23 (0, 0)) := blk_below K7 hb
    (try clear K7a K7b)
    have K7a : w1.cell? ⟨g7, 0, none⟩ = some (.int .i32 le1) := (blk_cell K7 0).trans rfl
    have K7b : w1.cell? ⟨g7, 1, none⟩ = some (.int .i32 le2) := (blk_cell K7 1).trans rfl
    replace K8 : w1.heap[g8]? = some (.cells #[.int .i32 gt1, .int .i32 gt2] 23 (0, 0)) := blk_below K8 hb
    (try clear K8a K8b)
    have K8a : w1.cell? ⟨g8, 0, none⟩ = some (.int .i32 gt1) := (blk_cell K8 0).trans rfl
    have K8b : w1.cell? ⟨g8, 1, none⟩ = some (.int .i32 gt2) := (blk_cell K8 1).trans rfl
    replace K9 : w1.heap[g9]? = some (.cells #[.int .i32 eq1, .int .i32 eq2] 23 (0, 0)) := blk_below K9 hb
    (try clear K9a K9b)
    have K9a : w1.cell? ⟨g9, 0, none⟩ = some (.int .i32 eq1) := (blk_cell K9 0).trans rfl
    have K9b : w1.cell? ⟨g9, 1, none⟩ = some (.int .i32 eq2) := (blk_cell K9 1).trans rfl
    replace K10 : w1.heap[g10]? = some (.cells #[.int .i32 ne1, .int .i32 ne2] 23 (0, 0)) := blk_below K10 hb
    (try clear K10a K10b)
    have K10a : w1.cell? ⟨g10, 0, none⟩ = some (.int .i32 ne1) := (blk_cell K10 0).trans rfl
    have K10b : w1.cell? ⟨g10, 1, none⟩ = some (.int .i32 ne2) := (blk_cell K10 1).trans rfl
    clear hb
    refine hK.out _ _ ⟨p0, q0, p1, q1, K5a, K5b, K6a, K6b, K7a, K7b, K8a, K8b, K9a, K9b, K10a, K10b⟩ (fun hHeld => ?_)
    clear hK K
    refine pure_ (i := 26) (N := some 73) (v := ?_) (a' := ?_) (bl 77 134217727) rfl rfl (any_of HT_.out (by kernel_rfl)) (fun _ _ _ h => h) (Or.inl ⟨by rfl, ?_⟩) ?_ ?_
    rotate_left
    (intro w'; go_simp; with_reducible rfl)
    rotate_left
    (simp only [Act.put, List.setIfInBounds_toArray, List.set_cons_zero, List.set_cons_succ, i64_w, i32_w]; rfl)
    refine pure_ (i := 27) (N := some 74) (v := ?_) (a' := ?_) (bl 77 268435455) rfl rfl (any_of HT_.out (by kernel_rfl)) (fun _ _ _ h => h) (Or.inl ⟨by rfl, ?_⟩) ?_ ?_
    rotate_left
    (intro w'; go_simp; with_reducible rfl)
    rotate_left
    (simp only [Act.put, List.setIfInBounds_toArray, List.set_cons_zero, List.set_cons_succ, i64_w, i32_w]; rfl)
    refine pure_ (i := 28) (N := some 75) (v := ?_) (a' := ?_) (bl 77 536870911) rfl rfl (any_of HT_.out (by kernel_rfl)) (fun _ _ _ h => h) (Or.inl ⟨by rfl, ?_⟩) ?_ ?_
    rotate_left
    (intro w'; go_simp; with_reducible rfl)
    rotate_left
    (simp only [Act.put, List.setIfInBounds_toArray, List.set_cons_zero, List.set_cons_succ, i64_w, i32_w]; rfl)
    refine take_ (i := 29) (N := some 76) (v := ?_) (a' := ?_) (bl 77 1073741823) rfl rfl (take_ofW HT_.out HW_.out (by kernel_rfl)) (fun _ _ _ h => h) (Or.inl ⟨by rfl, ?_⟩) hHeld ?_ ?_
    rotate_left
    (rintro w' ⟨s0, s1, s2, s3, s4, s5, s6, s7, s8, s9, s10, s11, s12, s13, s14, s15⟩; go_simp; with_reducible rfl)
    rotate_left
    (simp only [Act.put, List.setIfInBounds_toArray, List.set_cons_zero, List.set_cons_succ, i64_w, i32_w]; rfl)
    refine pure_ (i := 31) (N := some 78) (v := ?_) (a' := ?_) (bl 77 3221225471) rfl rfl (any_of HT_.out (by kernel_rfl)) (fun _ _ _ h => h) (Or.inl ⟨by rfl, ?_⟩) ?_ ?_
    rotate_left
    (intro w'; go_simp; with_reducible rfl)
    rotate_left
    (simp only [Act.put, List.setIfInBounds_toArray, List.set_cons_zero, List.set_cons_succ, i64_w, i32_w]; rfl)
    refine take_ (i := 32) (N := some 79) (v := ?_) (a' := ?_) (bl 77 7516192767) rfl rfl (take_ofW HT_.out HW_.out (by kernel_rfl)) (fun _ _ _ h => h) (Or.inl ⟨by rfl, ?_⟩) hHeld ?_ ?_
    rotate_left
    (rintro w' ⟨s0, s1, s2, s3, s4, s5, s6, s7, s8, s9, s10, s11, s12, s13, s14, s15⟩; go_simp; with_reducible rfl)
    rotate_left
    (simp only [Act.put, List.setIfInBounds_toArray, List.set_cons_zero, List.set_cons_succ, i64_w, i32_w]; rfl)
    refine pure_ (i := 33) (N := some 80) (v := ?_) (a' := ?_) (bl 77 16106127359) rfl rfl (any_of HT_.out (by kernel_rfl)) (fun _ _ _ h => h) (Or.inl ⟨by rfl, ?_⟩) ?_ ?_
    rotate_left
    (intro w'; go_simp; with_reducible rfl)
    rotate_left
    (simp only [Act.put, List.setIfInBounds_toArray, List.set_cons_zero, List.set_cons_succ, i64_w, i32_w]; rfl)
    refine take_ (i := 34) (N := some 81) (v := ?_) (a' := ?_) (bl 77 33285996543) rfl rfl (take_ofW HT_.out HW_.out (by kernel_rfl)) (fun _ _ _ h => h) (Or.inl ⟨by rfl, ?_⟩) hHeld ?_ ?_
    rotate_left
    (rintro w' ⟨s0, s1, s2, s3, s4, s5, s6, s7, s8, s9, s10, s11, s12, s13, s14, s15⟩; go_simp; with_reducible rfl)
    rotate_left
    (simp only [Act.put, List.setIfInBounds_toArray, List.set_cons_zero, List.set_cons_succ, i64_w, i32_w]; rfl)
    refine pure_ (i := 35) (N := some 82) (v := ?_) (a' := ?_) (bl 77 67645734911) rfl rfl (any_of HT_.out (by kernel_rfl)) (fun _ _ _ h => h) (Or.inl ⟨by rfl, ?_⟩) ?_ ?_
    rotate_left
    (intro w'; go_simp; with_reducible rfl)
    rotate_left
    (simp only [Act.put, List.setIfInBounds_toArray, List.set_cons_zero, List.set_cons_succ, i64_w, i32_w]; rfl)
    refine one_ (i := 30) (N := some 77) (bl 77 68719476735) rfl rfl (one_of HT_.out (by kernel_rfl)) (by decide) (fun K hK => ?_)
    rw [if_pos (by rfl)]
    go_simp
    go_at_call 15
    (with_reducible refine (contains_r le1 le2 0 _ Hc4.out _).mono ?_)
    rintro e w1 ⟨rfl, hb⟩
    replace F : Fr w w1 [(23, #[.int .i32 a, .int .i32 b]), (23, #[.int .i32 c, .int .i32 d])] := (by first | exact F.call hb | exact F.drew.call hb | exact (F.drewN _).call hb)
    (try clear p0 q0 p1 q1)
    obtain ⟨p0, q0, -, -⟩ := F.pair0 23 _ _ rfl
    obtain ⟨p1, q1, -, -⟩ := F.pair1 23 _ _ rfl
    replace K5 : w1.heap[g5]? = some (.cells #[.int .i32 lt1, .int .i32 lt2] 23 (0, 0)) := blk_below K5 hb
    (try clear K5a K5b)
    have K5a : w1.cell? ⟨g5, 0, none⟩ = some (.int .i32 lt1) := (blk_cell K5 0).trans rfl
    have K5b : w1.cell? ⟨g5, 1, none⟩ = some (.int .i32 lt2) := (blk_cell K5 1).trans rfl
    replace K6 : w1.heap[g6]? = some (.cells #[.int .i32 ge1, .int .i32 ge2] 23 (0, 0)) := blk_below K6 hb
    (try clear K6a K6b)
    have K6a : w1.cell? ⟨g6, 0, none⟩ = some (.int .i32 ge1) := (blk_cell K6 0).trans rfl
    have K6b : w1.cell? ⟨g6, 1, none⟩ = some (.int .i32 ge2) := (blk_cell K6 1).trans rfl
    replace K7 : w1.heap[g7]? = some (.cells #[.int .i32 le1, .int .i32 le2] 23 (0, 0)) := blk_below K7 hb
    (try clear K7a K7b)
    have K7a : w1.cell? ⟨g7, 0, none⟩ = some (.int .i32 le1) := (blk_cell K7 0).trans rfl
    have K7b : w1.cell? ⟨g7, 1, none⟩ = some (.int .i32 le2) := (blk_cell K7 1).trans rfl
    replace K8 : w1.heap[g8]? = some (.cells #[.int .i32 gt1, .int .i32 gt2] 23 (0, 0)) := blk_below K8 hb
    (try clear K8a K8b)
    have K8a : w1.cell? ⟨g8, 0, none⟩ = some (.int .i32 gt1) := (blk_cell K8 0).trans rfl
    have K8b : w1.cell? ⟨g8, 1, none⟩ = some (.int .i32 gt2) := (blk_cell K8 1).trans rfl
    replace K9 : w1.heap[g9]? = some (.cells #[.int .i32 eq1, .int .i32 eq2] 23 (0, 0)) := blk_below K9 hb
    (try clear K9a K9b)
    have K9a : w1.cell? ⟨g9, 0, none⟩ = some (.int .i32 eq1) := (blk_cell K9 0).trans rfl
    have K9b : w1.cell? ⟨g9, 1, none⟩ = some (.int .i32 eq2) := (blk_cell K9 1).trans rfl
    replace K10 : w1.heap[g10]? = some (.cells #[.int .i32 ne1, .int .i32 ne2] 23 (0, 0)) := blk_below K10 hb
    (try clear K10a K10b)
    have K10a : w1.cell? ⟨g10, 0, none⟩ = some (.int .i32 ne1) := (blk_cell K10 0).trans rfl
    have K10b : w1.cell? ⟨g10, 1, none⟩ = some (.int .i32 ne2) := (blk_cell K10 1).trans rfl
    clear hb
    refine hK.out _ _ ⟨p0, q0, p1, q1, K5a, K5b, K6a, K6b, K7a, K7b, K8a, K8b, K9a, K9b, K10a, K10b⟩ (fun hHeld => ?_)
    clear hK K
    refine pure_ (i := 36) (N := some 83) (v := ?_) (a' := ?_) (bl 77 137438953471) rfl rfl (any_of HT_.out (by kernel_rfl)) (fun _ _ _ h => h) (Or.inl ⟨by rfl, ?_⟩) ?_ ?_
    rotate_left
    (intro w'; go_simp; with_reducible rfl)
    rotate_left
    (simp only [Act.put, List.setIfInBounds_toArray, List.set_cons_zero, List.set_cons_succ, i64_w, i32_w]; rfl)
    refine pure_ (i := 37) (N := some 84) (v := ?_) (a' := ?_) (bl 77 274877906943) rfl rfl (any_of HT_.out (by kernel_rfl)) (fun _ _ _ h => h) (Or.inl ⟨by rfl, ?_⟩) ?_ ?_
    rotate_left
    (intro w'; go_simp; with_reducible rfl)
    rotate_left
    (simp only [Act.put, List.setIfInBounds_toArray, List.set_cons_zero, List.set_cons_succ, i64_w, i32_w]; rfl)
    refine pure_ (i := 38) (N := some 85) (v := ?_) (a' := ?_) (bl 77 549755813887) rfl rfl (any_of HT_.out (by kernel_rfl)) (fun _ _ _ h => h) (Or.inl ⟨by rfl, ?_⟩) ?_ ?_
    rotate_left
    (intro w'; go_simp; with_reducible rfl)
    rotate_left
    (simp only [Act.put, List.setIfInBounds_toArray, List.set_cons_zero, List.set_cons_succ, i64_w, i32_w]; rfl)
    refine take_ (i := 39) (N := some 86) (v := ?_) (a' := ?_) (bl 77 1099511627775) rfl rfl (take_ofW HT_.out HW_.out (by kernel_rfl)) (fun _ _ _ h => h) (Or.inl ⟨by rfl, ?_⟩) hHeld ?_ ?_
    rotate_left
    (rintro w' ⟨s0, s1, s2, s3, s4, s5, s6, s7, s8, s9, s10, s11, s12, s13, s14, s15⟩; go_simp; with_reducible rfl)
    rotate_left
    (simp only [Act.put, List.setIfInBounds_toArray, List.set_cons_zero, List.set_cons_succ, i64_w, i32_w]; rfl)
    refine pure_ (i := 40) (N := some 87) (v := ?_) (a' := ?_) (bl 77 2199023255551) rfl rfl (any_of HT_.out (by kernel_rfl)) (fun _ _ _ h => h) (Or.inl ⟨by rfl, ?_⟩) ?_ ?_
    rotate_left
    (intro w'; go_simp; with_reducible rfl)
    rotate_left
    (simp only [Act.put, List.setIfInBounds_toArray, List.set_cons_zero, List.set_cons_succ, i64_w, i32_w]; rfl)
    refine take_ (i := 41) (N := some 88) (v := ?_) (a' := ?_) (bl 77 4398046511103) rfl rfl (take_ofW HT_.out HW_.out (by kernel_rfl)) (fun _ _ _ h => h) (Or.inl ⟨by rfl, ?_⟩) hHeld ?_ ?_
    rotate_left
    (rintro w' ⟨s0, s1, s2, s3, s4, s5, s6, s7, s8, s9, s10, s11, s12, s13, s14, s15⟩; go_simp; with_reducible rfl)
    rotate_left
    (simp only [Act.put, List.setIfInBounds_toArray, List.set_cons_zero, List.set_cons_succ, i64_w, i32_w]; rfl)
    refine one_ (i := 42) (N := some 89) (bl 77 8796093022207) rfl rfl (one_of HT_.out (by kernel_rfl)) (by decide) (fun K hK => ?_)
    rw [if_pos (by rfl)]
    go_simp
    go_at_call 26
    (with_reducible refine (flip_r lt1 lt2 ge1 ge2 He1.out He2.out _).mono ?_)
    rintro e w1 ⟨rfl, hb⟩
    replace F : Fr w w1 [(23, #[.int .i32 a, .int .i32 b]), (23, #[.int .i32 c, .int .i32 d])] := (by first | exact F.call hb | exact F.drew.call hb | exact (F.drewN _).call hb)
    (try clear p0 q0 p1 q1)
    obtain ⟨p0, q0, -, -⟩ := F.pair0 23 _ _ rfl
    obtain ⟨p1, q1, -, -⟩ := F.pair1 23 _ _ rfl
    replace K5 : w1.heap[g5]? = some (.cells #[.int .i32 lt1, .int .i32 lt2] 23 (0, 0)) := blk_below K5 hb
    (try clear K5a K5b)
    have K5a : w1.cell? ⟨g5, 0, none⟩ = some (.int .i32 lt1) := (blk_cell K5 0).trans rfl
    have K5b : w1.cell? ⟨g5, 1, none⟩ = some (.int .i32 lt2) := (blk_cell K5 1).trans rfl
    replace K6 : w1.heap[g6]? = some (.cells #[.int .i32 ge1, .int .i32 ge2] 23 (0, 0)) := blk_below K6 hb
    (try clear K6a K6b)
    have K6a : w1.cell? ⟨g6, 0, none⟩ = some (.int .i32 ge1) := (blk_cell K6 0).trans rfl
    have K6b : w1.cell? ⟨g6, 1, none⟩ = some (.int .i32 ge2) := (blk_cell K6 1).trans rfl
    replace K7 : w1.heap[g7]? = some (.cells #[.int .i32 le1, .int .i32 le2] 23 (0, 0)) := blk_below K7 hb
    (try clear K7a K7b)
    have K7a : w1.cell? ⟨g7, 0, none⟩ = some (.int .i32 le1) := (blk_cell K7 0).trans rfl
    have K7b : w1.cell? ⟨g7, 1, none⟩ = some (.int .i32 le2) := (blk_cell K7 1).trans rfl
    replace K8 : w1.heap[g8]? = some (.cells #[.int .i32 gt1, .int .i32 gt2] 23 (0, 0)) := blk_below K8 hb
    (try clear K8a K8b)
    have K8a : w1.cell? ⟨g8, 0, none⟩ = some (.int .i32 gt1) := (blk_cell K8 0).trans rfl
    have K8b : w1.cell? ⟨g8, 1, none⟩ = some (.int .i32 gt2) := (blk_cell K8 1).trans rfl
    replace K9 : w1.heap[g9]? = some (.cells #[.int .i32 eq1, .int .i32 eq2] 23 (0, 0)) := blk_below K9 hb
    (try clear K9a K9b)
    have K9a : w1.cell? ⟨g9, 0, none⟩ = some (.int .i32 eq1) := (blk_cell K9 0).trans rfl
    have K9b : w1.cell? ⟨g9, 1, none⟩ = some (.int .i32 eq2) := (blk_cell K9 1).trans rfl
    replace K10 : w1.heap[g10]? = some (.cells #[.int .i32 ne1, .int .i32 ne2] 23 (0, 0)) := blk_below K10 hb
    (try clear K10a K10b)
    have K10a : w1.cell? ⟨g10, 0, none⟩ = some (.int .i32 ne1) := (blk_cell K10 0).trans rfl
    have K10b : w1.cell? ⟨g10, 1, none⟩ = some (.int .i32 ne2) := (blk_cell K10 1).trans rfl
    clear hb
    refine hK.out _ _ ⟨p0, q0, p1, q1, K5a, K5b, K6a, K6b, K7a, K7b, K8a, K8b, K9a, K9b, K10a, K10b⟩ (fun hHeld => ?_)
    clear hK K
    refine pure_ (i := 43) (N := some 90) (v := ?_) (a' := ?_) (bl 77 17592186044415) rfl rfl (any_of HT_.out (by kernel_rfl)) (fun _ _ _ h => h) (Or.inl ⟨by rfl, ?_⟩) ?_ ?_
    rotate_left
    (intro w'; go_simp; with_reducible rfl)
    rotate_left
    (simp only [Act.put, List.setIfInBounds_toArray, List.set_cons_zero, List.set_cons_succ, i64_w, i32_w]; rfl)
    refine pure_ (i := 44) (N := some 91) (v := ?_) (a' := ?_) (bl 77 35184372088831) rfl rfl (any_of HT_.out (by kernel_rfl)) (fun _ _ _ h => h) (Or.inl ⟨by rfl, ?_⟩) ?_ ?_
    rotate_left
    (intro w'; go_simp; with_reducible rfl)
    rotate_left
    (simp only [Act.put, List.setIfInBounds_toArray, List.set_cons_zero, List.set_cons_succ, i64_w, i32_w]; rfl)
    refine pure_ (i := 45) (N := some 92) (v := ?_) (a' := ?_) (bl 77 70368744177663) rfl rfl (any_of HT_.out (by kernel_rfl)) (fun _ _ _ h => h) (Or.inl ⟨by rfl, ?_⟩) ?_ ?_
    rotate_left
    (intro w'; go_simp; with_reducible rfl)
    rotate_left
    (simp only [Act.put, List.setIfInBounds_toArray, List.set_cons_zero, List.set_cons_succ, i64_w, i32_w]; rfl)
    refine take_ (i := 46) (N := some 93) (v := ?_) (a' := ?_) (bl 77 140737488355327) rfl rfl (take_ofW HT_.out HW_.out (by kernel_rfl)) (fun _ _ _ h => h) (Or.inl ⟨by rfl, ?_⟩) hHeld ?_ ?_
    rotate_left
    (rintro w' ⟨s0, s1, s2, s3, s4, s5, s6, s7, s8, s9, s10, s11, s12, s13, s14, s15⟩; go_simp; with_reducible rfl)
    rotate_left
    (simp only [Act.put, List.setIfInBounds_toArray, List.set_cons_zero, List.set_cons_succ, i64_w, i32_w]; rfl)
    refine pure_ (i := 47) (N := some 94) (v := ?_) (a' := ?_) (bl 77 281474976710655) rfl rfl (any_of HT_.out (by kernel_rfl)) (fun _ _ _ h => h) (Or.inl ⟨by rfl, ?_⟩) ?_ ?_
    rotate_left
    (intro w'; go_simp; with_reducible rfl)
    rotate_left
    (simp only [Act.put, List.setIfInBounds_toArray, List.set_cons_zero, List.set_cons_succ, i64_w, i32_w]; rfl)
    refine take_ (i := 48) (N := some 95) (v := ?_) (a' := ?_) (bl 77 562949953421311) rfl rfl (take_ofW HT_.out HW_.out (by kernel_rfl)) (fun _ _ _ h => h) (Or.inl ⟨by rfl, ?_⟩) hHeld ?_ ?_
    rotate_left
    (rintro w' ⟨s0, s1, s2, s3, s4, s5, s6, s7, s8, s9, s10, s11, s12, s13, s14, s15⟩; go_simp; with_reducible rfl)
    rotate_left
    (simp only [Act.put, List.setIfInBounds_toArray, List.set_cons_zero, List.set_cons_succ, i64_w, i32_w]; rfl)
    refine one_ (i := 49) (N := some 96) (bl 77 1125899906842623) rfl rfl (one_of HT_.out (by kernel_rfl)) (by decide) (fun K hK => ?_)
    rw [if_pos (by rfl)]
    go_simp
    go_at_call 26
    (with_reducible refine (flip_r le1 le2 gt1 gt2 He3.out He4.out _).mono ?_)
    rintro e w1 ⟨rfl, hb⟩
    replace F : Fr w w1 [(23, #[.int .i32 a, .int .i32 b]), (23, #[.int .i32 c, .int .i32 d])] := (by first | exact F.call hb | exact F.drew.call hb | exact (F.drewN _).call hb)
    (try clear p0 q0 p1 q1)
    obtain ⟨p0, q0, -, -⟩ := F.pair0 23 _ _ rfl
    obtain ⟨p1, q1, -, -⟩ := F.pair1 23 _ _ rfl
    replace K5 : w1.heap[g5]? = some (.cells #[.int .i32 lt1, .int .i32 lt2] 23 (0, 0)) := blk_below K5 hb
    (try clear K5a K5b)
    have K5a : w1.cell? ⟨g5, 0, none⟩ = some (.int .i32 lt1) := (blk_cell K5 0).trans rfl
    have K5b : w1.cell? ⟨g5, 1, none⟩ = some (.int .i32 lt2) := (blk_cell K5 1).trans rfl
    replace K6 : w1.heap[g6]? = some (.cells #[.int .i32 ge1, .int .i32 ge2] 23 (0, 0)) := blk_below K6 hb
    (try clear K6a K6b)
    have K6a : w1.cell? ⟨g6, 0, none⟩ = some (.int .i32 ge1) := (blk_cell K6 0).trans rfl
    have K6b : w1.cell? ⟨g6, 1, none⟩ = some (.int .i32 ge2) := (blk_cell K6 1).trans rfl
    replace K7 : w1.heap[g7]? = some (.cells #[.int .i32 le1, .int .i32 le2] 23 (0, 0)) := blk_below K7 hb
    (try clear K7a K7b)
    have K7a : w1.cell? ⟨g7, 0, none⟩ = some (.int .i32 le1) := (blk_cell K7 0).trans rfl
    have K7b : w1.cell? ⟨g7, 1, none⟩ = some (.int .i32 le2) := (blk_cell K7 1).trans rfl
    replace K8 : w1.heap[g8]? = some (.cells #[.int .i32 gt1, .int .i32 gt2] 23 (0, 0)) := blk_below K8 hb
    (try clear K8a K8b)
    have K8a : w1.cell? ⟨g8, 0, none⟩ = some (.int .i32 gt1) := (blk_cell K8 0).trans rfl
    have K8b : w1.cell? ⟨g8, 1, none⟩ = some (.int .i32 gt2) := (blk_cell K8 1).trans rfl
    replace K9 : w1.heap[g9]? = some (.cells #[.int .i32 eq1, .int .i32 eq2] 23 (0, 0)) := blk_below K9 hb
    (try clear K9a K9b)
    have K9a : w1.cell? ⟨g9, 0, none⟩ = some (.int .i32 eq1) := (blk_cell K9 0).trans rfl
    have K9b : w1.cell? ⟨g9, 1, none⟩ = some (.int .i32 eq2) := (blk_cell K9 1).trans rfl
    replace K10 : w1.heap[g10]? = some (.cells #[.int .i32 ne1, .int .i32 ne2] 23 (0, 0)) := blk_below K10 hb
    (try clear K10a K10b)
    have K10a : w1.cell? ⟨g10, 0, none⟩ = some (.int .i32 ne1) := (blk_cell K10 0).trans rfl
    have K10b : w1.cell? ⟨g10, 1, none⟩ = some (.int .i32 ne2) := (blk_cell K10 1).trans rfl
    clear hb
    refine hK.out _ _ ⟨p0, q0, p1, q1, K5a, K5b, K6a, K6b, K7a, K7b, K8a, K8b, K9a, K9b, K10a, K10b⟩ (fun hHeld => ?_)
    clear hK K
    refine pure_ (i := 50) (N := some 97) (v := ?_) (a' := ?_) (bl 77 2251799813685247) rfl rfl (any_of HT_.out (by kernel_rfl)) (fun _ _ _ h => h) (Or.inl ⟨by rfl, ?_⟩) ?_ ?_
    rotate_left
    (intro w'; go_simp; with_reducible rfl)
    rotate_left
    (simp only [Act.put, List.setIfInBounds_toArray, List.set_cons_zero, List.set_cons_succ, i64_w, i32_w]; rfl)
    refine pure_ (i := 51) (N := some 98) (v := ?_) (a' := ?_) (bl 77 4503599627370495) rfl rfl (any_of HT_.out (by kernel_rfl)) (fun _ _ _ h => h) (Or.inl ⟨by rfl, ?_⟩) ?_ ?_
    rotate_left
    (intro w'; go_simp; with_reducible rfl)
    rotate_left
    (simp only [Act.put, List.setIfInBounds_toArray, List.set_cons_zero, List.set_cons_succ, i64_w, i32_w]; rfl)
    refine pure_ (i := 52) (N := some 99) (v := ?_) (a' := ?_) (bl 77 9007199254740991) rfl rfl (any_of HT_.out (by kernel_rfl)) (fun _ _ _ h => h) (Or.inl ⟨by rfl, ?_⟩) ?_ ?_
    rotate_left
    (intro w'; go_simp; with_reducible rfl)
    rotate_left
    (simp only [Act.put, List.setIfInBounds_toArray, List.set_cons_zero, List.set_cons_succ, i64_w, i32_w]; rfl)
    refine take_ (i := 53) (N := some 100) (v := ?_) (a' := ?_) (bl 77 18014398509481983) rfl rfl (take_ofW HT_.out HW_.out (by kernel_rfl)) (fun _ _ _ h => h) (Or.inl ⟨by rfl, ?_⟩) hHeld ?_ ?_
    rotate_left
    (rintro w' ⟨s0, s1, s2, s3, s4, s5, s6, s7, s8, s9, s10, s11, s12, s13, s14, s15⟩; go_simp; with_reducible rfl)
    rotate_left
    (simp only [Act.put, List.setIfInBounds_toArray, List.set_cons_zero, List.set_cons_succ, i64_w, i32_w]; rfl)
    refine pure_ (i := 54) (N := some 101) (v := ?_) (a' := ?_) (bl 77 36028797018963967) rfl rfl (any_of HT_.out (by kernel_rfl)) (fun _ _ _ h => h) (Or.inl ⟨by rfl, ?_⟩) ?_ ?_
    rotate_left
    (intro w'; go_simp; with_reducible rfl)
    rotate_left
    (simp only [Act.put, List.setIfInBounds_toArray, List.set_cons_zero, List.set_cons_succ, i64_w, i32_w]; rfl)
    refine take_ (i := 55) (N := some 102) (v := ?_) (a' := ?_) (bl 77 72057594037927935) rfl rfl (take_ofW HT_.out HW_.out (by kernel_rfl)) (fun _ _ _ h => h) (Or.inl ⟨by rfl, ?_⟩) hHeld ?_ ?_
    rotate_left
    (rintro w' ⟨s0, s1, s2, s3, s4, s5, s6, s7, s8, s9, s10, s11, s12, s13, s14, s15⟩; go_simp; with_reducible rfl)
    rotate_left
    (simp only [Act.put, List.setIfInBounds_toArray, List.set_cons_zero, List.set_cons_succ, i64_w, i32_w]; rfl)
    refine one_ (i := 56) (N := some 103) (bl 77 144115188075855871) rfl rfl (one_of HT_.out (by kernel_rfl)) (by decide) (fun K hK => ?_)
    rw [if_pos (by rfl)]
    go_simp
    go_at_call 26
    (with_reducible refine (flip_r eq1 eq2 ne1 ne2 He5.out He6.out _).mono ?_)
    rintro e w1 ⟨rfl, hb⟩
    replace F : Fr w w1 [(23, #[.int .i32 a, .int .i32 b]), (23, #[.int .i32 c, .int .i32 d])] := (by first | exact F.call hb | exact F.drew.call hb | exact (F.drewN _).call hb)
    (try clear p0 q0 p1 q1)
    obtain ⟨p0, q0, -, -⟩ := F.pair0 23 _ _ rfl
    obtain ⟨p1, q1, -, -⟩ := F.pair1 23 _ _ rfl
    replace K5 : w1.heap[g5]? = some (.cells #[.int .i32 lt1, .int .i32 lt2] 23 (0, 0)) := blk_below K5 hb
    (try clear K5a K5b)
    have K5a : w1.cell? ⟨g5, 0, none⟩ = some (.int .i32 lt1) := (blk_cell K5 0).trans rfl
    have K5b : w1.cell? ⟨g5, 1, none⟩ = some (.int .i32 lt2) := (blk_cell K5 1).trans rfl
    replace K6 : w1.heap[g6]? = some (.cells #[.int .i32 ge1, .int .i32 ge2] 23 (0, 0)) := blk_below K6 hb
    (try clear K6a K6b)
    have K6a : w1.cell? ⟨g6, 0, none⟩ = some (.int .i32 ge1) := (blk_cell K6 0).trans rfl
    have K6b : w1.cell? ⟨g6, 1, none⟩ = some (.int .i32 ge2) := (blk_cell K6 1).trans rfl
    replace K7 : w1.heap[g7]? = some (.cells #[.int .i32 le1, .int .i32 le2] 23 (0, 0)) := blk_below K7 hb
    (try clear K7a K7b)
    have K7a : w1.cell? ⟨g7, 0, none⟩ = some (.int .i32 le1) := (blk_cell K7 0).trans rfl
    have K7b : w1.cell? ⟨g7, 1, none⟩ = some (.int .i32 le2) := (blk_cell K7 1).trans rfl
    replace K8 : w1.heap[g8]? = some (.cells #[.int .i32 gt1, .int .i32 gt2] 23 (0, 0)) := blk_below K8 hb
    (try clear K8a K8b)
    have K8a : w1.cell? ⟨g8, 0, none⟩ = some (.int .i32 gt1) := (blk_cell K8 0).trans rfl
    have K8b : w1.cell? ⟨g8, 1, none⟩ = some (.int .i32 gt2) := (blk_cell K8 1).trans rfl
    replace K9 : w1.heap[g9]? = some (.cells #[.int .i32 eq1, .int .i32 eq2] 23 (0, 0)) := blk_below K9 hb
    (try clear K9a K9b)
    have K9a : w1.cell? ⟨g9, 0, none⟩ = some (.int .i32 eq1) := (blk_cell K9 0).trans rfl
    have K9b : w1.cell? ⟨g9, 1, none⟩ = some (.int .i32 eq2) := (blk_cell K9 1).trans rfl
    replace K10 : w1.heap[g10]? = some (.cells #[.int .i32 ne1, .int .i32 ne2] 23 (0, 0)) := blk_below K10 hb
    (try clear K10a K10b)
    have K10a : w1.cell? ⟨g10, 0, none⟩ = some (.int .i32 ne1) := (blk_cell K10 0).trans rfl
    have K10b : w1.cell? ⟨g10, 1, none⟩ = some (.int .i32 ne2) := (blk_cell K10 1).trans rfl
    clear hb
    refine hK.out _ _ ⟨p0, q0, p1, q1, K5a, K5b, K6a, K6b, K7a, K7b, K8a, K8b, K9a, K9b, K10a, K10b⟩ (fun hHeld => ?_)
    clear hK K
    refine pure_ (i := 57) (N := some 104) (v := ?_) (a' := ?_) (bl 77 288230376151711743) rfl rfl (any_of HT_.out (by kernel_rfl)) (fun _ _ _ h => h) (Or.inl ⟨by rfl, ?_⟩) ?_ ?_
    rotate_left
    (intro w'; go_simp; with_reducible rfl)
    rotate_left
    (simp only [Act.put, List.setIfInBounds_toArray, List.set_cons_zero, List.set_cons_succ, i64_w, i32_w]; rfl)
    refine pure_ (i := 58) (N := some 105) (v := ?_) (a' := ?_) (bl 77 576460752303423487) rfl rfl (any_of HT_.out (by kernel_rfl)) (fun _ _ _ h => h) (Or.inl ⟨by rfl, ?_⟩) ?_ ?_
    rotate_left
    (intro w'; go_simp; with_reducible rfl)
    rotate_left
    (simp only [Act.put, List.setIfInBounds_toArray, List.set_cons_zero, List.set_cons_succ, i64_w, i32_w]; rfl)
    refine pure_ (i := 59) (N := some 106) (v := ?_) (a' := ?_) (bl 77 1152921504606846975) rfl rfl (any_of HT_.out (by kernel_rfl)) (fun _ _ _ h => h) (Or.inl ⟨by rfl, ?_⟩) ?_ ?_
    rotate_left
    (intro w'; go_simp; with_reducible rfl)
    rotate_left
    (simp only [Act.put, List.setIfInBounds_toArray, List.set_cons_zero, List.set_cons_succ, i64_w, i32_w]; rfl)
    refine take_ (i := 60) (N := some 107) (v := ?_) (a' := ?_) (bl 77 2305843009213693951) rfl rfl (take_ofW HT_.out HW_.out (by kernel_rfl)) (fun _ _ _ h => h) (Or.inl ⟨by rfl, ?_⟩) hHeld ?_ ?_
    rotate_left
    (rintro w' ⟨s0, s1, s2, s3, s4, s5, s6, s7, s8, s9, s10, s11, s12, s13, s14, s15⟩; go_simp; with_reducible rfl)
    rotate_left
    (simp only [Act.put, List.setIfInBounds_toArray, List.set_cons_zero, List.set_cons_succ, i64_w, i32_w]; rfl)
    refine pure_ (i := 62) (N := some 109) (v := ?_) (a' := ?_) (bl 77 6917529027641081855) rfl rfl (any_of HT_.out (by kernel_rfl)) (fun _ _ _ h => h) (Or.inl ⟨by rfl, ?_⟩) ?_ ?_
    rotate_left
    (intro w'; go_simp; with_reducible rfl)
    rotate_left
    (simp only [Act.put, List.setIfInBounds_toArray, List.set_cons_zero, List.set_cons_succ, i64_w, i32_w]; rfl)
    refine take_ (i := 63) (N := some 110) (v := ?_) (a' := ?_) (bl 77 16140901064495857663) rfl rfl (take_ofW HT_.out HW_.out (by kernel_rfl)) (fun _ _ _ h => h) (Or.inl ⟨by rfl, ?_⟩) hHeld ?_ ?_
    rotate_left
    (rintro w' ⟨s0, s1, s2, s3, s4, s5, s6, s7, s8, s9, s10, s11, s12, s13, s14, s15⟩; go_simp; with_reducible rfl)
    rotate_left
    (simp only [Act.put, List.setIfInBounds_toArray, List.set_cons_zero, List.set_cons_succ, i64_w, i32_w]; rfl)
    refine pure_ (i := 64) (N := some 111) (v := ?_) (a' := ?_) (bl 77 34587645138205409279) rfl rfl (any_of HT_.out (by kernel_rfl)) (fun _ _ _ h => h) (Or.inl ⟨by rfl, ?_⟩) ?_ ?_
    rotate_left
    (intro w'; go_simp; with_reducible rfl)
    rotate_left
    (simp only [Act.put, List.setIfInBounds_toArray, List.set_cons_zero, List.set_cons_succ, i64_w, i32_w]; rfl)
    refine take_ (i := 65) (N := some 112) (v := ?_) (a' := ?_) (bl 77 71481133285624512511) rfl rfl (take_ofW HT_.out HW_.out (by kernel_rfl)) (fun _ _ _ h => h) (Or.inl ⟨by rfl, ?_⟩) hHeld ?_ ?_
    rotate_left
    (rintro w' ⟨s0, s1, s2, s3, s4, s5, s6, s7, s8, s9, s10, s11, s12, s13, s14, s15⟩; go_simp; with_reducible rfl)
    rotate_left
    (simp only [Act.put, List.setIfInBounds_toArray, List.set_cons_zero, List.set_cons_succ, i64_w, i32_w]; rfl)
    refine pure_ (i := 66) (N := some 113) (v := ?_) (a' := ?_) (bl 77 145268109580462718975) rfl rfl (any_of HT_.out (by kernel_rfl)) (fun _ _ _ h => h) (Or.inl ⟨by rfl, ?_⟩) ?_ ?_
    rotate_left
    (intro w'; go_simp; with_reducible rfl)
    rotate_left
    (simp only [Act.put, List.setIfInBounds_toArray, List.set_cons_zero, List.set_cons_succ, i64_w, i32_w]; rfl)
    refine one_ (i := 61) (N := some 108) (bl 77 147573952589676412927) rfl rfl (one_of HT_.out (by kernel_rfl)) (by decide) (fun K hK => ?_)
    rw [if_pos (by rfl)]
    go_simp
    go_at_call 15
    (with_reducible refine (contains_r eq1 eq2 1 _ HR.out _).mono ?_)
    rintro e w1 ⟨rfl, hb⟩
    replace F : Fr w w1 [(23, #[.int .i32 a, .int .i32 b]), (23, #[.int .i32 c, .int .i32 d])] := (by first | exact F.call hb | exact F.drew.call hb | exact (F.drewN _).call hb)
    (try clear p0 q0 p1 q1)
    obtain ⟨p0, q0, -, -⟩ := F.pair0 23 _ _ rfl
    obtain ⟨p1, q1, -, -⟩ := F.pair1 23 _ _ rfl
    replace K5 : w1.heap[g5]? = some (.cells #[.int .i32 lt1, .int .i32 lt2] 23 (0, 0)) := blk_below K5 hb
    (try clear K5a K5b)
    have K5a : w1.cell? ⟨g5, 0, none⟩ = some (.int .i32 lt1) := (blk_cell K5 0).trans rfl
    have K5b : w1.cell? ⟨g5, 1, none⟩ = some (.int .i32 lt2) := (blk_cell K5 1).trans rfl
    replace K6 : w1.heap[g6]? = some (.cells #[.int .i32 ge1, .int .i32 ge2] 23 (0, 0)) := blk_below K6 hb
    (try clear K6a K6b)
    have K6a : w1.cell? ⟨g6, 0, none⟩ = some (.int .i32 ge1) := (blk_cell K6 0).trans rfl
    have K6b : w1.cell? ⟨g6, 1, none⟩ = some (.int .i32 ge2) := (blk_cell K6 1).trans rfl
    replace K7 : w1.heap[g7]? = some (.cells #[.int .i32 le1, .int .i32 le2] 23 (0, 0)) := blk_below K7 hb
    (try clear K7a K7b)
    have K7a : w1.cell? ⟨g7, 0, none⟩ = some (.int .i32 le1) := (blk_cell K7 0).trans rfl
    have K7b : w1.cell? ⟨g7, 1, none⟩ = some (.int .i32 le2) := (blk_cell K7 1).trans rfl
    replace K8 : w1.heap[g8]? = some (.cells #[.int .i32 gt1, .int .i32 gt2] 23 (0, 0)) := blk_below K8 hb
    (try clear K8a K8b)
    have K8a : w1.cell? ⟨g8, 0, none⟩ = some (.int .i32 gt1) := (blk_cell K8 0).trans rfl
    have K8b : w1.cell? ⟨g8, 1, none⟩ = some (.int .i32 gt2) := (blk_cell K8 1).trans rfl
    replace K9 : w1.heap[g9]? = some (.cells #[.int .i32 eq1, .int .i32 eq2] 23 (0, 0)) := blk_below K9 hb
    (try clear K9a K9b)
    have K9a : w1.cell? ⟨g9, 0, none⟩ = some (.int .i32 eq1) := (blk_cell K9 0).trans rfl
    have K9b : w1.cell? ⟨g9, 1, none⟩ = some (.int .i32 eq2) := (blk_cell K9 1).trans rfl
    replace K10 : w1.heap[g10]? = some (.cells #[.int .i32 ne1, .int .i32 ne2] 23 (0, 0)) := blk_below K10 hb
    (try clear K10a K10b)
    have K10a : w1.cell? ⟨g10, 0, none⟩ = some (.int .i32 ne1) := (blk_cell K10 0).trans rfl
    have K10b : w1.cell? ⟨g10, 1, none⟩ = some (.int .i32 ne2) := (blk_cell K10 1).trans rfl
    clear hb
    refine hK.out _ _ ⟨p0, q0, p1, q1, K5a, K5b, K6a, K6b, K7a, K7b, K8a, K8b, K9a, K9b, K10a, K10b⟩ (fun hHeld => ?_)
    clear hK K
    refine pure_ (i := 67) (N := some 114) (v := ?_) (a' := ?_) (bl 77 295147905179352825855) rfl rfl (any_of HT_.out (by kernel_rfl)) (fun _ _ _ h => h) (Or.inl ⟨by rfl, ?_⟩) ?_ ?_
    rotate_left
    (intro w'; go_simp; with_reducible rfl)
    rotate_left
    (simp only [Act.put, List.setIfInBounds_toArray, List.set_cons_zero, List.set_cons_succ, i64_w, i32_w]; rfl)
    first
    | (refine pure_ (i := 68) (N := some 115) (v := undef) (a' := ?_) (bl 77 590295810358705651711) rfl rfl (any_of HT_.out (by kernel_rfl)) (fun _ _ _ h => h) (Or.inr ⟨by rfl, rfl⟩) ?_ ?_; rotate_left; (simp only [Act.put, List.setIfInBounds_toArray, List.set_cons_zero, List.set_cons_succ, i64_w, i32_w]; rfl))
    | (refine pure_ (i := 68) (N := some 115) (v := ?_) (a' := ?_) (bl 77 590295810358705651711) rfl rfl (any_of HT_.out (by kernel_rfl)) (fun _ _ _ h => h) (Or.inl ⟨by rfl, ?_⟩) ?_ ?_; rotate_left; (intro w'; go_simp; with_reducible rfl); rotate_left; (simp only [Act.put, List.setIfInBounds_toArray, List.set_cons_zero, List.set_cons_succ, i64_w, i32_w]; rfl))
    first
    | (refine pure_ (i := 69) (N := some 116) (v := undef) (a' := ?_) (bl 77 1180591620717411303423) rfl rfl (any_of HT_.out (by kernel_rfl)) (fun _ _ _ h => h) (Or.inr ⟨by rfl, rfl⟩) ?_ ?_; rotate_left; (simp only [Act.put, List.setIfInBounds_toArray, List.set_cons_zero, List.set_cons_succ, i64_w, i32_w]; rfl))
    | (refine take_ (i := 69) (N := some 116) (v := ?_) (a' := ?_) (bl 77 1180591620717411303423) rfl rfl (take_ofW HT_.out HW_.out (by kernel_rfl)) (fun _ _ _ h => h) (Or.inl ⟨by rfl, ?_⟩) hHeld ?_ ?_; rotate_left; (rintro w' ⟨s0, s1, s2, s3, s4, s5, s6, s7, s8, s9, s10, s11, s12, s13, s14, s15⟩; go_simp; with_reducible rfl); rotate_left; (simp only [Act.put, List.setIfInBounds_toArray, List.set_cons_zero, List.set_cons_succ, i64_w, i32_w]; rfl))
    first
    | (refine pure_ (i := 70) (N := some 117) (v := undef) (a' := ?_) (bl 77 2361183241434822606847) rfl rfl (any_of HT_.out (by kernel_rfl)) (fun _ _ _ h => h) (Or.inr ⟨by rfl, rfl⟩) ?_ ?_; rotate_left; (simp only [Act.put, List.setIfInBounds_toArray, List.set_cons_zero, List.set_cons_succ, i64_w, i32_w]; rfl))
    | (refine pure_ (i := 70) (N := some 117) (v := ?_) (a' := ?_) (bl 77 2361183241434822606847) rfl rfl (any_of HT_.out (by kernel_rfl)) (fun _ _ _ h => h) (Or.inl ⟨by rfl, ?_⟩) ?_ ?_; rotate_left; (intro w'; go_simp; with_reducible rfl); rotate_left; (simp only [Act.put, List.setIfInBounds_toArray, List.set_cons_zero, List.set_cons_succ, i64_w, i32_w]; rfl))
    first
    | (refine pure_ (i := 71) (N := some 118) (v := undef) (a' := ?_) (bl 77 4722366482869645213695) rfl rfl (any_of HT_.out (by kernel_rfl)) (fun _ _ _ h => h) (Or.inr ⟨by rfl, rfl⟩) ?_ ?_; rotate_left; (simp only [Act.put, List.setIfInBounds_toArray, List.set_cons_zero, List.set_cons_succ, i64_w, i32_w]; rfl))
    | (refine take_ (i := 71) (N := some 118) (v := ?_) (a' := ?_) (bl 77 4722366482869645213695) rfl rfl (take_ofW HT_.out HW_.out (by kernel_rfl)) (fun _ _ _ h => h) (Or.inl ⟨by rfl, ?_⟩) hHeld ?_ ?_; rotate_left; (rintro w' ⟨s0, s1, s2, s3, s4, s5, s6, s7, s8, s9, s10, s11, s12, s13, s14, s15⟩; go_simp; with_reducible rfl); rotate_left; (simp only [Act.put, List.setIfInBounds_toArray, List.set_cons_zero, List.set_cons_succ, i64_w, i32_w]; rfl))
    first
    | (refine pure_ (i := 72) (N := some 119) (v := undef) (a' := ?_) (bl 77 9444732965739290427391) rfl rfl (any_of HT_.out (by kernel_rfl)) (fun _ _ _ h => h) (Or.inr ⟨by rfl, rfl⟩) ?_ ?_; rotate_left; (simp only [Act.put, List.setIfInBounds_toArray, List.set_cons_zero, List.set_cons_succ, i64_w, i32_w]; rfl))
    | (refine pure_ (i := 72) (N := some 119) (v := ?_) (a' := ?_) (bl 77 9444732965739290427391) rfl rfl (any_of HT_.out (by kernel_rfl)) (fun _ _ _ h => h) (Or.inl ⟨by rfl, ?_⟩) ?_ ?_; rotate_left; (intro w'; go_simp; with_reducible rfl); rotate_left; (simp only [Act.put, List.setIfInBounds_toArray, List.set_cons_zero, List.set_cons_succ, i64_w, i32_w]; rfl))
    refine pure_ (i := 73) (N := some 120) (v := ?_) (a' := ?_) (bl 77 18889465931478580854783) rfl rfl (any_of HT_.out (by kernel_rfl)) (fun _ _ _ h => h) (Or.inl ⟨by rfl, ?_⟩) ?_ ?_
    rotate_left
    (intro w'; go_simp; with_reducible rfl)
    rotate_left
    (simp only [Act.put, List.setIfInBounds_toArray, List.set_cons_zero, List.set_cons_succ, i64_w, i32_w]; rfl)
    refine pure_ (i := 74) (N := some 121) (v := ?_) (a' := ?_) (bl 77 37778931862957161709567) rfl rfl (any_of HT_.out (by kernel_rfl)) (fun _ _ _ h => h) (Or.inl ⟨by rfl, ?_⟩) ?_ ?_
    rotate_left
    (intro w'; go_simp; with_reducible rfl)
    rotate_left
    (simp only [Act.put, List.setIfInBounds_toArray, List.set_cons_zero, List.set_cons_succ, i64_w, i32_w]; rfl)
    refine pure_ (i := 75) (N := some 122) (v := ?_) (a' := ?_) (bl 77 75557863725914323419135) rfl rfl (any_of HT_.out (by kernel_rfl)) (fun _ _ _ h => h) (Or.inl ⟨by rfl, ?_⟩) ?_ ?_
    rotate_left
    (intro w'; go_simp; with_reducible rfl)
    rotate_left
    (simp only [Act.put, List.setIfInBounds_toArray, List.set_cons_zero, List.set_cons_succ, i64_w, i32_w]; rfl)
    refine pure_ (i := 76) (N := some 4) (v := ?_) (a' := ?_) (bl 77 151115727451828646838271) rfl rfl (any_of HT_.out (by kernel_rfl)) (fun _ _ _ h => h) (Or.inl ⟨by rfl, ?_⟩) ?_ ?_
    rotate_left
    (intro w'; go_simp; with_reducible rfl)
    rotate_left
    (simp only [Act.put, List.setIfInBounds_toArray, List.set_cons_zero, List.set_cons_succ, i64_w, i32_w]; rfl)
    refine done_ (by kernel_rfl) ?_
    go_wp2
    go_ret
    exact ⟨by first | rfl | (simp; done) | (simp; omega), F.below⟩
  
theorem IntervalDecides_calls (a b c d : Int) (ha : -2147483648 ≤ a) (ha1 : a ≤ 2147483647) (hb : -2147483648 ≤ b) (hb1 : b ≤ 2147483647) (hc : -2147483648 ≤ c) (hc1 : c ≤ 2147483647) (hd : -2147483648 ≤ d) (hd1 : d ≤ 2147483647) (w : World) : Calls Try.prog 8 #[.agg #[.int .i32 a, .int .i32 b], .agg #[.int .i32 c, .int .i32 d]] w fun e w' => e = .returned (.bool true) ∧ Below w.heap.size w w' := by
  by_cases h1 : b < a
  · exact dec_empty1 a b c d h1 w
  by_cases h2 : d < c
  · exact dec_empty2 a b c d (by omega) h2 w
  have hab : a ≤ b := by omega
  have hcd : c ≤ d := by omega
  obtain ⟨e5, e6, c5⟩ := iap_eq a b c d hab hcd
  have nlt : ¬ (decide (b < c) = true ∧ decide (d ≤ a) = true) := by simp only [decide_eq_true_eq]; omega
  have nle : ¬ (decide (b ≤ c) = true ∧ decide (d < a) = true) := by simp only [decide_eq_true_eq]; omega
  have c1 : ct (iap 18 a b c d).1 (iap 18 a b c d).2 1 = decide (a < d) := by rw [iap_lt a b c d hab hcd, tru_one _ _ nlt, ← decide_not, decide_eq_decide]; omega
  have c2 : ct (iap 18 a b c d).1 (iap 18 a b c d).2 0 = decide (c ≤ b) := by rw [iap_lt a b c d hab hcd, tru_zero _ _ nlt, ← decide_not, decide_eq_decide]; omega
  have c3 : ct (iap 19 a b c d).1 (iap 19 a b c d).2 1 = decide (a ≤ d) := by rw [iap_le a b c d hab hcd, tru_one _ _ nle, ← decide_not, decide_eq_decide]; omega
  have c4 : ct (iap 19 a b c d).1 (iap 19 a b c d).2 0 = decide (c < b) := by rw [iap_le a b c d hab hcd, tru_zero _ _ nle, ← decide_not, decide_eq_decide]; omega
  have e12 : wrap32 (1 - (iap 18 a b c d).2) = (iap 21 a b c d).1 ∧ wrap32 (1 - (iap 18 a b c d).1) = (iap 21 a b c d).2 := by
    rw [iap_lt a b c d hab hcd, iap_ge a b c d hab hcd]; exact tru_flip _ _ nlt
  have e34 : wrap32 (1 - (iap 19 a b c d).2) = (iap 20 a b c d).1 ∧ wrap32 (1 - (iap 19 a b c d).1) = (iap 20 a b c d).2 := by
    rw [iap_le a b c d hab hcd, iap_gt a b c d hab hcd]; exact tru_flip _ _ nle
  exact dec_main a b c d _ _ _ _ _ _ _ _ _ _ _ _ ha ha1 hb hb1 hc hc1 hd hd1 hab hcd rfl rfl rfl rfl rfl rfl c1 c2 c3 c4 c5 e12.1 e12.2 e34.1 e34.2 e5 e6 w

end Go.Proofs.Ytcchelfopbgolaa.Decides
