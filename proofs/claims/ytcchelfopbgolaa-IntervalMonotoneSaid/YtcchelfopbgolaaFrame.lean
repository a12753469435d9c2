/- Words for the walks: the blocks that a call has made at its begin, and what becomes of them. Conditions: as each lemma says. -/
import Derived.Test.YtcchelfopbgolaaBase
namespace Go.Proofs.Ytcchelfopbgolaa.Blocks
open Go.RowKit Go.Proofs.YtcchelfopbgolaaW.PrintWords Go.Proofs.YtcchelfopbgolaaW.PrintLast Go.Proofs.YtcchelfopbgolaaW.PrintMore

/-- From world w on the call has laid these blocks first; below them nothing has changed. -/
structure Fr (w W : World) (L : List (TypeId × Array Value)) : Prop where
  below : Below w.heap.size w W
  blk : ∀ (i : Nat) (o : TypeId × Array Value), L[i]? = some o → W.heap[w.heap.size + i]? = some (.cells o.2 o.1 (0, 0))

theorem Fr.nil (w : World) : Fr w w [] := ⟨Below.refl _ _, fun i o h => by simp at h⟩
theorem Fr.init {w W : World} {L : List (TypeId × Array Value)} (F : Fr w W L) (hs : W.heap.size = w.heap.size + L.length) (t : TypeId) (cs : Array Value) :
    Fr w (W.alloc (.cells cs t (0, 0))) (L ++ [(t, cs)]) := by
  refine ⟨below_alloc F.below _, fun i o h => ?_⟩
  by_cases hi : i < L.length
  · rw [List.getElem?_append_left hi] at h
    exact blk_alloc (F.blk i o h) _
  · rw [List.getElem?_append_right (by omega)] at h
    have h0 : i - L.length = 0 := by
      by_cases e : i - L.length = 0
      · exact e
      · rw [List.getElem?_eq_none (by simp; omega)] at h; cases h
    rw [h0] at h
    simp at h
    subst h
    have := blk_new W (.cells cs t (0, 0))
    rw [hs] at this
    rw [show i = L.length by omega]
    exact this
theorem Fr.one (w : World) (t0 : TypeId) (c0 : Array Value) : Fr w (w.alloc (.cells c0 t0 (0, 0))) [(t0, c0)] := (Fr.nil w).init rfl t0 c0
theorem Fr.two (w : World) (t0 : TypeId) (c0 : Array Value) (t1 : TypeId) (c1 : Array Value) :
    Fr w ((w.alloc (.cells c0 t0 (0, 0))).alloc (.cells c1 t1 (0, 0))) [(t0, c0), (t1, c1)] := (Fr.one w t0 c0).init (by simp) t1 c1
theorem Fr.three (w : World) (t0 : TypeId) (c0 : Array Value) (t1 : TypeId) (c1 : Array Value) (t2 : TypeId) (c2 : Array Value) :
    Fr w (((w.alloc (.cells c0 t0 (0, 0))).alloc (.cells c1 t1 (0, 0))).alloc (.cells c2 t2 (0, 0))) [(t0, c0), (t1, c1), (t2, c2)] := (Fr.two w t0 c0 t1 c1).init (by simp) t2 c2
theorem Fr.four (w : World) (t0 : TypeId) (c0 : Array Value) (t1 : TypeId) (c1 : Array Value) (t2 : TypeId) (c2 : Array Value) (t3 : TypeId) (c3 : Array Value) :
    Fr w ((((w.alloc (.cells c0 t0 (0, 0))).alloc (.cells c1 t1 (0, 0))).alloc (.cells c2 t2 (0, 0))).alloc (.cells c3 t3 (0, 0))) [(t0, c0), (t1, c1), (t2, c2), (t3, c3)] := (Fr.three w t0 c0 t1 c1 t2 c2).init (by simp) t3 c3

variable {w W w1 : World} {L : List (TypeId × Array Value)}
theorem Fr.call (F : Fr w W L) (hb : Below W.heap.size W w1) : Fr w w1 L := ⟨below_step F.below hb, fun i o h => blk_below (F.blk i o h) hb⟩
theorem Fr.drew (F : Fr w W L) : Fr w W.drew L := ⟨F.below.drew, F.blk⟩
theorem Fr.drewN (F : Fr w W L) (n : Nat) : Fr w (W.drewN n) L := ⟨pw_below_drewN F.below n, F.blk⟩
theorem Fr.alloc (F : Fr w W L) (o : Obj) : Fr w (W.alloc o) L := ⟨below_alloc F.below o, fun i p h => blk_alloc (F.blk i p h) o⟩
theorem Fr.size (F : Fr w W L) (i : Nat) (o : TypeId × Array Value) (h : L[i]? = some o) : w.heap.size + i < W.heap.size := blk_lt (F.blk i o h)
theorem Fr.base (F : Fr w W L) : w.heap.size ≤ W.heap.size := F.below.size
/-- A store into one of the blocks. -/
theorem Fr.set (F : Fr w W L) (i j : Nat) (t : TypeId) (cs : Array Value) (h : L[i]? = some (t, cs)) (v : Value) : Fr w (W.setCell ⟨w.heap.size + i, j, none⟩ v) (L.set i (t, cs.setIfInBounds j v)) := by
  refine ⟨below_set F.below (by omega), fun k o hk => ?_⟩
  by_cases e : k = i
  · subst e
    have hl : k < L.length := by
      by_cases hl : k < L.length
      · exact hl
      · rw [List.getElem?_eq_none (by omega)] at h; cases h
    rw [List.getElem?_set_self hl] at hk
    cases hk
    exact blk_set (F.blk k _ h) j v
  · rw [List.getElem?_set_ne (Ne.symm e)] at hk
    exact blk_far (F.blk k o hk) (p := ⟨w.heap.size + i, j, none⟩) (by simp; omega) v
/-- A store into a block that came later. -/
theorem Fr.far (F : Fr w W L) (g j : Nat) (hg : w.heap.size + L.length ≤ g) (v : Value) : Fr w (W.setCell ⟨g, j, none⟩ v) L := by
  refine ⟨below_set F.below (by omega), fun k o hk => ?_⟩
  have hl : k < L.length := by
    by_cases hl : k < L.length
    · exact hl
    · rw [List.getElem?_eq_none (by omega)] at hk; cases hk
  exact blk_far (F.blk k o hk) (p := ⟨g, j, none⟩) (by simp; omega) v
theorem Fr.cell (F : Fr w W L) (i j : Nat) (t : TypeId) (cs : Array Value) (h : L[i]? = some (t, cs)) : W.cell? ⟨w.heap.size + i, j, none⟩ = cs[j]? := blk_cell (F.blk i _ h) j
theorem Fr.frozen (F : Fr w W L) (i j : Nat) (t : TypeId) (cs : Array Value) (h : L[i]? = some (t, cs)) : W.frozen? ⟨w.heap.size + i, j, none⟩ = false := blk_frozen (F.blk i _ h) j

/-- What a walk wants to know of a block of two cells. -/
theorem Fr.pair (F : Fr w W L) (i : Nat) (t : TypeId) (x y : Value) (h : L[i]? = some (t, #[x, y])) :
    W.cell? ⟨w.heap.size + i, 0, none⟩ = some x ∧ W.cell? ⟨w.heap.size + i, 1, none⟩ = some y ∧ W.frozen? ⟨w.heap.size + i, 0, none⟩ = false ∧ W.frozen? ⟨w.heap.size + i, 1, none⟩ = false :=
  ⟨(F.cell i 0 t _ h).trans rfl, (F.cell i 1 t _ h).trans rfl, F.frozen i 0 t _ h, F.frozen i 1 t _ h⟩

theorem Fr.pair0 (F : Fr w W L) (t : TypeId) (x y : Value) (h : L[0]? = some (t, #[x, y])) :
    W.cell? ⟨w.heap.size, 0, none⟩ = some x ∧ W.cell? ⟨w.heap.size, 1, none⟩ = some y ∧ W.frozen? ⟨w.heap.size, 0, none⟩ = false ∧ W.frozen? ⟨w.heap.size, 1, none⟩ = false := F.pair 0 t x y h
theorem Fr.blk0 (F : Fr w W L) (t : TypeId) (cs : Array Value) (h : L[0]? = some (t, cs)) : W.heap[w.heap.size]? = some (.cells cs t (0, 0)) := F.blk 0 _ h
theorem Fr.put0 (F : Fr w W L) (t : TypeId) (x y : Value) (h : L[0]? = some (t, #[x, y])) (u v : Value) :
    Fr w ((W.setCell ⟨w.heap.size, 0, none⟩ u).setCell ⟨w.heap.size, 1, none⟩ v) (L.set 0 (t, #[u, v])) := by
  have G := F.set 0 0 t _ h u
  have G2 := G.set 0 1 t _ (by rw [List.getElem?_set_self (by
    by_cases hl : 0 < L.length
    · exact hl
    · rw [List.getElem?_eq_none (by omega)] at h; cases h)]) v
  rw [List.set_set] at G2
  exact G2
theorem Fr.pair1 (F : Fr w W L) (t : TypeId) (x y : Value) (h : L[1]? = some (t, #[x, y])) :
    W.cell? ⟨w.heap.size + 1, 0, none⟩ = some x ∧ W.cell? ⟨w.heap.size + 1, 1, none⟩ = some y ∧ W.frozen? ⟨w.heap.size + 1, 0, none⟩ = false ∧ W.frozen? ⟨w.heap.size + 1, 1, none⟩ = false := F.pair 1 t x y h
theorem Fr.blk1 (F : Fr w W L) (t : TypeId) (cs : Array Value) (h : L[1]? = some (t, cs)) : W.heap[w.heap.size + 1]? = some (.cells cs t (0, 0)) := F.blk 1 _ h
theorem Fr.put1 (F : Fr w W L) (t : TypeId) (x y : Value) (h : L[1]? = some (t, #[x, y])) (u v : Value) :
    Fr w ((W.setCell ⟨w.heap.size + 1, 0, none⟩ u).setCell ⟨w.heap.size + 1, 1, none⟩ v) (L.set 1 (t, #[u, v])) := by
  have G := F.set 1 0 t _ h u
  have G2 := G.set 1 1 t _ (by rw [List.getElem?_set_self (by
    by_cases hl : 1 < L.length
    · exact hl
    · rw [List.getElem?_eq_none (by omega)] at h; cases h)]) v
  rw [List.set_set] at G2
  exact G2
theorem Fr.pair2 (F : Fr w W L) (t : TypeId) (x y : Value) (h : L[2]? = some (t, #[x, y])) :
    W.cell? ⟨w.heap.size + 1 + 1, 0, none⟩ = some x ∧ W.cell? ⟨w.heap.size + 1 + 1, 1, none⟩ = some y ∧ W.frozen? ⟨w.heap.size + 1 + 1, 0, none⟩ = false ∧ W.frozen? ⟨w.heap.size + 1 + 1, 1, none⟩ = false := F.pair 2 t x y h
theorem Fr.blk2 (F : Fr w W L) (t : TypeId) (cs : Array Value) (h : L[2]? = some (t, cs)) : W.heap[w.heap.size + 1 + 1]? = some (.cells cs t (0, 0)) := F.blk 2 _ h
theorem Fr.put2 (F : Fr w W L) (t : TypeId) (x y : Value) (h : L[2]? = some (t, #[x, y])) (u v : Value) :
    Fr w ((W.setCell ⟨w.heap.size + 1 + 1, 0, none⟩ u).setCell ⟨w.heap.size + 1 + 1, 1, none⟩ v) (L.set 2 (t, #[u, v])) := by
  have G := F.set 2 0 t _ h u
  have G2 := G.set 2 1 t _ (by rw [List.getElem?_set_self (by
    by_cases hl : 2 < L.length
    · exact hl
    · rw [List.getElem?_eq_none (by omega)] at h; cases h)]) v
  rw [List.set_set] at G2
  exact G2
theorem Fr.pair3 (F : Fr w W L) (t : TypeId) (x y : Value) (h : L[3]? = some (t, #[x, y])) :
    W.cell? ⟨w.heap.size + 1 + 1 + 1, 0, none⟩ = some x ∧ W.cell? ⟨w.heap.size + 1 + 1 + 1, 1, none⟩ = some y ∧ W.frozen? ⟨w.heap.size + 1 + 1 + 1, 0, none⟩ = false ∧ W.frozen? ⟨w.heap.size + 1 + 1 + 1, 1, none⟩ = false := F.pair 3 t x y h
theorem Fr.blk3 (F : Fr w W L) (t : TypeId) (cs : Array Value) (h : L[3]? = some (t, cs)) : W.heap[w.heap.size + 1 + 1 + 1]? = some (.cells cs t (0, 0)) := F.blk 3 _ h
theorem Fr.put3 (F : Fr w W L) (t : TypeId) (x y : Value) (h : L[3]? = some (t, #[x, y])) (u v : Value) :
    Fr w ((W.setCell ⟨w.heap.size + 1 + 1 + 1, 0, none⟩ u).setCell ⟨w.heap.size + 1 + 1 + 1, 1, none⟩ v) (L.set 3 (t, #[u, v])) := by
  have G := F.set 3 0 t _ h u
  have G2 := G.set 3 1 t _ (by rw [List.getElem?_set_self (by
    by_cases hl : 3 < L.length
    · exact hl
    · rw [List.getElem?_eq_none (by omega)] at h; cases h)]) v
  rw [List.set_set] at G2
  exact G2
theorem Fr.pair4 (F : Fr w W L) (t : TypeId) (x y : Value) (h : L[4]? = some (t, #[x, y])) :
    W.cell? ⟨w.heap.size + 1 + 1 + 1 + 1, 0, none⟩ = some x ∧ W.cell? ⟨w.heap.size + 1 + 1 + 1 + 1, 1, none⟩ = some y ∧ W.frozen? ⟨w.heap.size + 1 + 1 + 1 + 1, 0, none⟩ = false ∧ W.frozen? ⟨w.heap.size + 1 + 1 + 1 + 1, 1, none⟩ = false := F.pair 4 t x y h
theorem Fr.blk4 (F : Fr w W L) (t : TypeId) (cs : Array Value) (h : L[4]? = some (t, cs)) : W.heap[w.heap.size + 1 + 1 + 1 + 1]? = some (.cells cs t (0, 0)) := F.blk 4 _ h
theorem Fr.put4 (F : Fr w W L) (t : TypeId) (x y : Value) (h : L[4]? = some (t, #[x, y])) (u v : Value) :
    Fr w ((W.setCell ⟨w.heap.size + 1 + 1 + 1 + 1, 0, none⟩ u).setCell ⟨w.heap.size + 1 + 1 + 1 + 1, 1, none⟩ v) (L.set 4 (t, #[u, v])) := by
  have G := F.set 4 0 t _ h u
  have G2 := G.set 4 1 t _ (by rw [List.getElem?_set_self (by
    by_cases hl : 4 < L.length
    · exact hl
    · rw [List.getElem?_eq_none (by omega)] at h; cases h)]) v
  rw [List.set_set] at G2
  exact G2

end Go.Proofs.Ytcchelfopbgolaa.Blocks
