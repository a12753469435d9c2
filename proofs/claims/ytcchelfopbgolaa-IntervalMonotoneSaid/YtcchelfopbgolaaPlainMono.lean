/- Plain laws: the result of an operator on intervals contains the values of members, and grows with its operands. Conditions: as each lemma says. -/
import Derived.Test.YtcchelfopbgolaaPlainSound
namespace Go.Proofs.YtcchelfopbgolaaPlain
open Go.RowKit Go
set_option linter.unusedVariables false
set_option linter.unusedSimpArgs false

theorem tru_has {always never : Bool} {P : Prop} [Decidable P] (h1 : always = true → P) (h2 : never = true → ¬ P) : ct (tru always never).1 (tru always never).2 (tr (decide P)) = true := by
  rw [ct_iff]; unfold tru tr
  by_cases h : always = true
  · rw [if_pos h, if_pos (by simp [h1 h])]; simp only; omega
  · rw [if_neg h]
    by_cases k : never = true
    · rw [if_pos k, if_neg (by simp [h2 k])]; simp only; omega
    · rw [if_neg k]; split <;> simp only <;> omega
theorem tru_in {al nv al' nv' : Bool} (h1 : al' = true → al = true) (h2 : nv' = true → nv = true) (h3 : nv' = true → al = false) : wi (tru al nv).1 (tru al nv).2 (tru al' nv').1 (tru al' nv').2 = true := by
  cases al <;> cases nv <;> cases al' <;> cases nv' <;> first | rfl | (simp at h1 h2 h3; done)

theorem met_gt (a b c d : Int) (h1 : a ≤ b) (h2 : c ≤ d) : decide ((met a b c d).1 > (met a b c d).2) = true ↔ ¬ (a ≤ d ∧ c ≤ b) := by
  rw [decide_eq_true_iff]
  rcases met_def a b c d with ⟨h, e⟩ | ⟨k1, k2, k3, e⟩ <;> rw [e] <;> simp only <;> omega

theorem zero_only (a b : Int) : (a == 0 && b == 0) = true ↔ a = 0 ∧ b = 0 := by rw [Bool.and_eq_true, beq_iff_eq, beq_iff_eq]
theorem no_zero (a b : Int) : (!ct a b 0) = true ↔ ¬ (a ≤ 0 ∧ 0 ≤ b) := by rw [Bool.not_eq_true', ← Bool.not_eq_true, ct_iff]

/-- The comparisons' numbers. -/
theorem dec16 (a b c d : Int) : dec 16 a b c d = tru false (decide ((met a b c d).1 > (met a b c d).2)) := rfl
theorem dec17 (a b c d : Int) : dec 17 a b c d = tru (decide ((met a b c d).1 > (met a b c d).2)) false := rfl
theorem dec18 (a b c d : Int) : dec 18 a b c d = tru (decide (b < c)) (decide (a ≥ d)) := rfl
theorem dec19 (a b c d : Int) : dec 19 a b c d = tru (decide (b ≤ c)) (decide (a > d)) := rfl
theorem dec20 (a b c d : Int) : dec 20 a b c d = tru (decide (a > d)) (decide (b ≤ c)) := rfl
theorem dec21 (a b c d : Int) : dec 21 a b c d = tru (decide (a ≥ d)) (decide (b < c)) := rfl
theorem dec22 (a b c d : Int) : dec 22 a b c d = tru (!ct a b 0 && !ct c d 0) ((a == 0 && b == 0) || (c == 0 && d == 0)) := rfl
theorem dec23 (a b c d : Int) : dec 23 a b c d = tru (!ct a b 0 || !ct c d 0) ((a == 0 && b == 0) && (c == 0 && d == 0)) := rfl

theorem dec_has (k a b c d n m : Int) (hk : 16 ≤ k) (hk1 : k ≤ 23) (h1 : a ≤ n) (h2 : n ≤ b) (h3 : c ≤ m) (h4 : m ≤ d) : ct (dec k a b c d).1 (dec k a b c d).2 (ap k n m).1 = true := by
  have hk2 : k = 16 ∨ k = 17 ∨ k = 18 ∨ k = 19 ∨ k = 20 ∨ k = 21 ∨ k = 22 ∨ k = 23 := by omega
  rcases hk2 with rfl | rfl | rfl | rfl | rfl | rfl | rfl | rfl
  · rw [dec16, ap16]
    have e : (n == m) = decide (n = m) := by rw [Bool.eq_iff_iff]; simp
    simp only [e]
    refine tru_has (fun h => by simp at h) (fun h => ?_)
    have := (met_gt a b c d (by omega) (by omega)).mp h
    omega
  · rw [dec17, ap17]
    have e : (n != m) = decide (n ≠ m) := by rw [Bool.eq_iff_iff]; simp
    simp only [e]
    refine tru_has (fun h => ?_) (fun h => by simp at h)
    have := (met_gt a b c d (by omega) (by omega)).mp h
    omega
  · rw [dec18, ap18]
    exact tru_has (fun h => by have := of_decide_eq_true h; omega) (fun h => by have := of_decide_eq_true h; omega)
  · rw [dec19, ap19]
    exact tru_has (fun h => by have := of_decide_eq_true h; omega) (fun h => by have := of_decide_eq_true h; omega)
  · rw [dec20, ap20]
    exact tru_has (fun h => by have := of_decide_eq_true h; omega) (fun h => by have := of_decide_eq_true h; omega)
  · rw [dec21, ap21]
    exact tru_has (fun h => by have := of_decide_eq_true h; omega) (fun h => by have := of_decide_eq_true h; omega)
  · rw [dec22, ap22]
    have e : (n != 0 && m != 0) = decide (n ≠ 0 ∧ m ≠ 0) := by rw [Bool.eq_iff_iff]; simp
    simp only [e]
    refine tru_has (fun h => ?_) (fun h => ?_)
    · rw [Bool.and_eq_true, no_zero, no_zero] at h; omega
    · rw [Bool.or_eq_true, zero_only, zero_only] at h; omega
  · rw [dec23, ap23]
    have e : (n != 0 || m != 0) = decide (n ≠ 0 ∨ m ≠ 0) := by rw [Bool.eq_iff_iff]; simp
    simp only [e]
    refine tru_has (fun h => ?_) (fun h => ?_)
    · rw [Bool.or_eq_true, no_zero, no_zero] at h; omega
    · rw [Bool.and_eq_true, zero_only, zero_only] at h; omega

theorem dec_in (k a b c d a' b' c' d' : Int) (hk : 16 ≤ k) (hk1 : k ≤ 23) (h1 : a' ≤ a) (h2 : b ≤ b') (h3 : c' ≤ c) (h4 : d ≤ d') (h5 : a ≤ b) (h6 : c ≤ d) (hs : ¬ (a' = b' ∧ c' = d')) : wi (dec k a b c d).1 (dec k a b c d).2 (dec k a' b' c' d').1 (dec k a' b' c' d').2 = true := by
  have hk2 : k = 16 ∨ k = 17 ∨ k = 18 ∨ k = 19 ∨ k = 20 ∨ k = 21 ∨ k = 22 ∨ k = 23 := by omega
  have m1 := met_gt a b c d h5 h6
  have m2 := met_gt a' b' c' d' (by omega) (by omega)
  have z1 := zero_only a b
  have z2 := zero_only c d
  have z3 := zero_only a' b'
  have z4 := zero_only c' d'
  have n1 := no_zero a b
  have n2 := no_zero c d
  have n3 := no_zero a' b'
  have n4 := no_zero c' d'
  rcases hk2 with rfl | rfl | rfl | rfl | rfl | rfl | rfl | rfl
  · rw [dec16, dec16]
    exact tru_in (fun h => h) (fun h => m1.mpr (by have := m2.mp h; omega)) (fun _ => rfl)
  · rw [dec17, dec17]
    exact tru_in (fun h => m1.mpr (by have := m2.mp h; omega)) (fun h => h) (fun h => by simp at h)
  · rw [dec18, dec18]
    exact tru_in (fun h => decide_eq_true (by have := of_decide_eq_true h; omega)) (fun h => decide_eq_true (by have := of_decide_eq_true h; omega)) (fun h => decide_eq_false (by have := of_decide_eq_true h; omega))
  · rw [dec19, dec19]
    exact tru_in (fun h => decide_eq_true (by have := of_decide_eq_true h; omega)) (fun h => decide_eq_true (by have := of_decide_eq_true h; omega)) (fun h => decide_eq_false (by have := of_decide_eq_true h; omega))
  · rw [dec20, dec20]
    exact tru_in (fun h => decide_eq_true (by have := of_decide_eq_true h; omega)) (fun h => decide_eq_true (by have := of_decide_eq_true h; omega)) (fun h => decide_eq_false (by have := of_decide_eq_true h; omega))
  · rw [dec21, dec21]
    exact tru_in (fun h => decide_eq_true (by have := of_decide_eq_true h; omega)) (fun h => decide_eq_true (by have := of_decide_eq_true h; omega)) (fun h => decide_eq_false (by have := of_decide_eq_true h; omega))
  · rw [dec22, dec22]
    refine tru_in (fun h => ?_) (fun h => ?_) (fun h => ?_)
    · rw [Bool.and_eq_true, n3, n4] at h; rw [Bool.and_eq_true, n1, n2]; omega
    · rw [Bool.or_eq_true, z3, z4] at h; rw [Bool.or_eq_true, z1, z2]; omega
    · rw [Bool.or_eq_true, z3, z4] at h; rw [← Bool.not_eq_true, Bool.and_eq_true, n1, n2]; omega
  · rw [dec23, dec23]
    refine tru_in (fun h => ?_) (fun h => ?_) (fun h => ?_)
    · rw [Bool.or_eq_true, n3, n4] at h; rw [Bool.or_eq_true, n1, n2]; omega
    · rw [Bool.and_eq_true, z3, z4] at h; rw [Bool.and_eq_true, z1, z2]; omega
    · rw [Bool.and_eq_true, z3, z4] at h; rw [← Bool.not_eq_true, Bool.or_eq_true, n1, n2]; omega

/-- The result of an operator on two intervals that are not both of one word. -/
def big (k a b c d : Int) : Int × Int :=
  if k = 6 then cor (fun x y => x + y) a b c d else
  if k = 7 then cor (fun x y => x - y) a b c d else
  if k = 8 then cor (fun x y => x * y) a b c d else
  if k = 9 then dv a b c d else
  if k = 10 then rmd a b c d else
  if k = 11 then iand a b c d else
  if k = 12 then ior a b c d else
  if k = 13 then ixor a b c d else
  if k = 14 then lft a b c d else
  if k = 15 then rgt a b c d else dec k a b c d
theorem iap_out (k a b c d : Int) (h : k < 6 ∨ k > 23) : iap k a b c d = (-2147483648, 2147483647) := by unfold iap; rw [if_pos h]
theorem iap_none (k a b c d : Int) (h6 : 6 ≤ k) (h23 : k ≤ 23) (h : a > b ∨ c > d) : iap k a b c d = (1, 0) := by unfold iap; rw [if_neg (by omega), if_pos h]
theorem iap_one (k a c : Int) (h6 : 6 ≤ k) (h23 : k ≤ 23) : iap k a a c c = if (ap k a c).2 ≠ 0 then (1, 0) else ((ap k a c).1, (ap k a c).1) := by unfold iap; rw [if_neg (by omega), if_neg (by omega), if_pos ⟨rfl, rfl⟩]
theorem iap_big (k a b c d : Int) (h6 : 6 ≤ k) (h23 : k ≤ 23) (h1 : a ≤ b) (h2 : c ≤ d) (hs : ¬ (a = b ∧ c = d)) : iap k a b c d = big k a b c d := by unfold iap; rw [if_neg (by omega), if_neg (by omega), if_neg hs]; rfl

theorem big_has (k a b c d n m : Int) (h6 : 6 ≤ k) (h23 : k ≤ 23) (h1 : a ≤ n) (h2 : n ≤ b) (h3 : c ≤ m) (h4 : m ≤ d) (ha : -2147483648 ≤ a) (hb : b ≤ 2147483647) (hc : -2147483648 ≤ c) (hd : d ≤ 2147483647) (he : (ap k n m).2 = 0) : ct (big k a b c d).1 (big k a b c d).2 (ap k n m).1 = true := by
  have hk : k = 6 ∨ k = 7 ∨ k = 8 ∨ k = 9 ∨ k = 10 ∨ k = 11 ∨ k = 12 ∨ k = 13 ∨ k = 14 ∨ k = 15 ∨ 16 ≤ k := by omega
  rcases hk with rfl | rfl | rfl | rfl | rfl | rfl | rfl | rfl | rfl | rfl | hk
  · rw [ap6]; exact cor_has (box_add a b c d) h1 h2 h3 h4
  · rw [ap7]; exact cor_has (box_sub a b c d) h1 h2 h3 h4
  · rw [ap8]; exact cor_has (box_mul a b c d) h1 h2 h3 h4
  · have hm : m ≠ 0 := fun h => by rw [h, ap9z] at he; exact absurd he (by decide)
    rw [ap9 n m hm]; exact dv_has a b c d n m h1 h2 h3 h4 hc hd hm
  · have hm : m ≠ 0 := fun h => by rw [h, ap10z] at he; exact absurd he (by decide)
    rw [ap10 n m hm]; exact rmd_has a b c d n m h1 h2 h3 h4 hm
  · rw [ap11]; exact iand_has a b c d n m h1 h2 h3 h4 hb hd
  · rw [ap12]; exact ior_has a b c d n m h1 h2 h3 h4 ha hb hc hd
  · rw [ap13]; exact ixor_has a b c d n m h1 h2 h3 h4 hb hd
  · rw [ap14]; exact lft_has a b c d n m h1 h2 h3 h4
  · rw [ap15]; exact rgt_has a b c d n m h1 h2 h3 h4
  · have e : big k a b c d = dec k a b c d := by unfold big; iterate 10 rw [if_neg (by omega)]
    rw [e]; exact dec_has k a b c d n m hk h23 h1 h2 h3 h4

theorem big_in (k a b c d a' b' c' d' : Int) (h6 : 6 ≤ k) (h23 : k ≤ 23) (h1 : a' ≤ a) (h2 : b ≤ b') (h3 : c' ≤ c) (h4 : d ≤ d') (h5 : a ≤ b) (h7 : c ≤ d) (ha : -2147483648 ≤ a') (hb : b' ≤ 2147483647) (hc : -2147483648 ≤ c') (hd : d' ≤ 2147483647) (hs : ¬ (a' = b' ∧ c' = d')) : wi (big k a b c d).1 (big k a b c d).2 (big k a' b' c' d').1 (big k a' b' c' d').2 = true := by
  have hk : k = 6 ∨ k = 7 ∨ k = 8 ∨ k = 9 ∨ k = 10 ∨ k = 11 ∨ k = 12 ∨ k = 13 ∨ k = 14 ∨ k = 15 ∨ 16 ≤ k := by omega
  rcases hk with rfl | rfl | rfl | rfl | rfl | rfl | rfl | rfl | rfl | rfl | hk
  · exact cor_in (box_add a' b' c' d') h1 h2 h3 h4 h5 h7
  · exact cor_in (box_sub a' b' c' d') h1 h2 h3 h4 h5 h7
  · exact cor_in (box_mul a' b' c' d') h1 h2 h3 h4 h5 h7
  · exact dv_in a b c d a' b' c' d' h1 h2 h3 h4 h5 h7 hc hd (rg_dv a b c d)
  · exact rmd_in a b c d a' b' c' d' h1 h2 h3 h4 h5 h7
  · exact iand_in a b c d a' b' c' d' h1 h2 h3 h4 h5 h7 hb hd
  · exact ior_in a b c d a' b' c' d' h1 h2 h3 h4 h5 h7 ha hb hc hd
  · exact ixor_in a b c d a' b' c' d' h1 h2 h3 h4 h5 h7 hb hd
  · exact lft_in a b c d a' b' c' d' h1 h2 h3 h4 h5 h7
  · exact rgt_in a b c d a' b' c' d' h1 h2 h3 h4 h5 h7
  · have e : big k a b c d = dec k a b c d := by unfold big; iterate 10 rw [if_neg (by omega)]
    have e' : big k a' b' c' d' = dec k a' b' c' d' := by unfold big; iterate 10 rw [if_neg (by omega)]
    rw [e, e']; exact dec_in k a b c d a' b' c' d' hk h23 h1 h2 h3 h4 h5 h7 hs

/-- The result contains the value of any two members. -/
theorem iap_sound (k a b c d n m : Int) (h1 : a ≤ n) (h2 : n ≤ b) (h3 : c ≤ m) (h4 : m ≤ d) (ha : -2147483648 ≤ a) (hb : b ≤ 2147483647) (hc : -2147483648 ≤ c) (hd : d ≤ 2147483647) (h6 : 6 ≤ k) (h23 : k ≤ 23) (he : (ap k n m).2 = 0) : ct (iap k a b c d).1 (iap k a b c d).2 (ap k n m).1 = true := by
  by_cases hs : a = b ∧ c = d
  · obtain ⟨rfl, rfl⟩ := hs
    obtain rfl : n = a := by omega
    obtain rfl : m = c := by omega
    rw [iap_one k n m h6 h23, if_neg (by rw [he]; decide), ct_iff]
    exact ⟨Int.le_refl _, Int.le_refl _⟩
  · rw [iap_big k a b c d h6 h23 (by omega) (by omega) hs]
    exact big_has k a b c d n m h6 h23 h1 h2 h3 h4 ha hb hc hd he

/-- Larger operands have larger results. -/
theorem iap_mono (k a b c d a' b' c' d' : Int) (hx : wi a b a' b' = true) (hy : wi c d c' d' = true) (ha : -2147483648 ≤ a') (hb : b' ≤ 2147483647) (hc : -2147483648 ≤ c') (hd : d' ≤ 2147483647) : wi (iap k a b c d).1 (iap k a b c d).2 (iap k a' b' c' d').1 (iap k a' b' c' d').2 = true := by
  by_cases hk : k < 6 ∨ k > 23
  · rw [iap_out _ _ _ _ _ hk, iap_out _ _ _ _ _ hk]; exact wi_self _ _
  have h6 : 6 ≤ k := by omega
  have h23 : k ≤ 23 := by omega
  by_cases hz : a > b ∨ c > d
  · rw [iap_none k a b c d h6 h23 hz, wi_iff]; left; decide
  rw [wi_iff] at hx hy
  have h5 : a ≤ b := by omega
  have h7 : c ≤ d := by omega
  by_cases hs' : a' = b' ∧ c' = d'
  · obtain ⟨rfl, rfl⟩ := hs'
    obtain rfl : a = a' := by omega
    obtain rfl : b = a := by omega
    obtain rfl : c = c' := by omega
    obtain rfl : d = c := by omega
    exact wi_self _ _
  rw [iap_big k a' b' c' d' h6 h23 (by omega) (by omega) hs']
  by_cases hs : a = b ∧ c = d
  · obtain ⟨rfl, rfl⟩ := hs
    rw [iap_one k a c h6 h23]
    by_cases he : (ap k a c).2 ≠ 0
    · rw [if_pos he, wi_iff]; left; decide
    · rw [if_neg he]
      exact wi_one _ _ _ (big_has k a' b' c' d' a c h6 h23 (by omega) (by omega) (by omega) (by omega) ha hb hc hd (by omega))
  · rw [iap_big k a b c d h6 h23 h5 h7 hs]
    exact big_in k a b c d a' b' c' d' h6 h23 (by omega) (by omega) (by omega) (by omega) h5 h7 ha hb hc hd hs'

/-- The join's bounds are words. -/
theorem jn_range (a b c d : Int) (ha : -2147483648 ≤ a) (hb : b ≤ 2147483647) (hc : -2147483648 ≤ c) (hd : d ≤ 2147483647) : -2147483648 ≤ (jn a b c d).1 ∧ (jn a b c d).2 ≤ 2147483647 :=
  rg_jn (p := (a, b)) (q := (c, d)) ⟨ha, hb⟩ ⟨hc, hd⟩
theorem met_left (a b c d : Int) : wi (met a b c d).1 (met a b c d).2 a b = true := by
  rw [wi_iff]
  rcases met_def a b c d with ⟨h, e⟩ | ⟨k1, k2, k3, e⟩ <;> rw [e] <;> simp only <;> omega
/-- The law's two inclusions. -/
theorem mono_join (k a b c d p q r s : Int) (ha : -2147483648 ≤ a) (hb : b ≤ 2147483647) (hc : -2147483648 ≤ c) (hd : d ≤ 2147483647) (hp : -2147483648 ≤ p) (hq : q ≤ 2147483647) (hr : -2147483648 ≤ r) (hs : s ≤ 2147483647) :
    wi (iap k a b c d).1 (iap k a b c d).2 (iap k (jn a b p q).1 (jn a b p q).2 (jn c d r s).1 (jn c d r s).2).1 (iap k (jn a b p q).1 (jn a b p q).2 (jn c d r s).1 (jn c d r s).2).2 = true :=
  have h1 := jn_range a b p q ha hb hp hq
  have h2 := jn_range c d r s hc hd hr hs
  iap_mono k a b c d _ _ _ _ (jn_left a b p q) (jn_left c d r s) h1.1 h1.2 h2.1 h2.2
theorem mono_meet (k a b c d p q : Int) (ha : -2147483648 ≤ a) (hb : b ≤ 2147483647) (hc : -2147483648 ≤ c) (hd : d ≤ 2147483647) :
    wi (iap k (met a b p q).1 (met a b p q).2 c d).1 (iap k (met a b p q).1 (met a b p q).2 c d).2 (iap k a b c d).1 (iap k a b c d).2 = true :=
  iap_mono k _ _ c d a b c d (met_left a b p q) (wi_self c d) ha hb hc hd

end Go.Proofs.YtcchelfopbgolaaPlain
