/- Stream: what Feed leaves: the plain laws. -/
import Derived.Test.YteelckbeekgfiaaDoorW15
set_option linter.unusedSimpArgs false
set_option linter.unusedVariables false
namespace Go.Proofs.YteelckbeekgfiaaDoor
open Go Go.Sk Go.RowKit

theorem rightF_mk {s : Stm} (h1 : 0 ≤ s.start ∧ s.start < s.stop ∧ s.stop ≤ 256) (h2 : 1 ≤ s.kind ∧ s.kind ≤ 4) (h3 : 0 ≤ s.stamp ∧ s.stamp ≤ 1000000) (h4 : 0 ≤ s.hits ∧ s.hits ≤ 1000000) (h5 : s.hits = 0 ↔ s.kind = 1)
    (h6 : s.kind = 4 → strideF s.step = true ∧ s.stop - s.start ≤ sizeF s.step) (h7 : s.kind ≠ 4 → s.step = 0) : rightF s = true := (rightF_iff s).2 ⟨h1, h2, h3, h4, h5, h6, h7⟩
theorem validF_iff (a b : Int) : validF a b = true ↔ 0 ≤ a ∧ a < b ∧ b ≤ 256 := by simp [validF]
theorem kc1_iff (s : Stm) (a b : Int) (hs : 0 ≤ s.stop ∧ s.stop ≤ 256) : kc1 s a b = true ↔ (s.kind = 1 ∨ s.kind = 2) ∧ (a = s.stop ∨ a = s.stop - 1) ∧ s.stop < b := by
  rw [← kr1_eq, kr1, wrapI (by omega) (by omega)]
  simp [and_assoc]
theorem kc2_iff (s : Stm) (a b : Int) (hs : 0 ≤ s.start ∧ s.start ≤ 256) : kc2 s a b = true ↔ (s.kind = 1 ∨ s.kind = 3) ∧ (b = s.start ∨ b = s.start + 1) ∧ a < s.start := by
  rw [← kr2_eq, kr2, wrapI (by omega) (by omega)]
  simp [and_assoc]
theorem kc3_iff (s : Stm) (a : Int) (hs : 0 ≤ s.start ∧ s.start < s.stop ∧ s.stop ≤ 256) (ha : 0 ≤ a ∧ a ≤ 256) : kc3 s a = false ↔ (s.kind = 4 ∧ a - s.start = s.step) ∨ (s.kind = 1 ∧ strideF (a - s.start) = true ∧ s.stop - s.start ≤ sizeF (a - s.start)) := by
  have h := strided_eq s a
  have h' : (kc3 s a = false) ↔ stridedR s a = true := by rw [h]; simp
  rw [h', stridedR, byR, wrapI (n := a - s.start) (by omega) (by omega), wrapI (n := s.stop - s.start) (by omega) (by omega)]
  simp [and_assoc]
/-- What a match makes. -/
theorem matches_ok (s : Stm) (a b : Int) (hr : rightF s = true) (hv : validF a b = true) (hm : (matchesF s a b).2 = true) :
    rightF (matchesF s a b).1 = true ∧ (matchesF s a b).1.start ≤ a ∧ b ≤ (matchesF s a b).1.stop ∧ (matchesF s a b).1.stamp = s.stamp := by
  obtain ⟨⟨a1, a2, a3⟩, ⟨b1, b2⟩, e1, d1, d2, c1, c2⟩ := (rightF_iff s).1 hr
  obtain ⟨v1, v2, v3⟩ := (validF_iff a b).1 hv
  have hw : IntKind.i64.wrap (s.hits + 1) = s.hits + 1 := wrapI (by omega) (by omega)
  simp only [matchesF, hr, hv, kindF, Bool.not_true, Bool.or_self, cond_false] at hm ⊢
  cases h1 : kc1 s a b with
  | true =>
    simp only [if_true, Bool.not_true, cond_false, beqF (show ¬ (2 : Int) = 4 by omega)]
    rw [hw]
    exact ⟨rightF_mk (by simp; omega) (by simp) e1 (by simp; omega) (by simp; omega) (by simp) (by simp), by simp, by simp, (by first | rfl | trivial)⟩
  | false =>
    cases h2 : kc2 s a b with
    | true =>
      simp only [if_true, Bool.false_eq_true, if_false, Bool.not_true, cond_false, beqF (show ¬ (3 : Int) = 4 by omega)]
      rw [hw]
      exact ⟨rightF_mk (by simp; omega) (by simp) e1 (by simp; omega) (by simp; omega) (by simp) (by simp), by simp, by simp, (by first | rfl | trivial)⟩
    | false =>
      cases h3 : kc3 s a with
      | true =>
        simp only [h1, h2, h3, if_true, Bool.false_eq_true, if_false, Bool.not_false, cond_true, Bool.cond_false_right, Bool.and_eq_true, decide_eq_true_eq] at hm ⊢
        exact ⟨hr, hm.1, hm.2, trivial⟩
      | false =>
        have hk := (kc3_iff s a ⟨a1, a2, a3⟩ ⟨v1, by omega⟩).1 h3
        simp only [h1, h2, h3, Bool.false_eq_true, if_false] at hm ⊢
        rw [wrapI (n := b - a) (by omega) (by omega), wrapI (n := a - s.start) (by omega) (by omega)] at hm ⊢
        by_cases h4 : b - a ≤ sizeF (a - s.start)
        · simp only [h4, decide_true, Bool.not_true, cond_false, beqT rfl, cond_true] at hm ⊢
          rw [hw]
          refine ⟨rightF_mk (by simp; omega) (by simp) e1 (by simp; omega) (by simp; omega) (fun _ => ⟨?_, h4⟩) (by simp), by simp, by simp, trivial⟩
          rcases hk with ⟨k1, k2⟩ | ⟨k1, k2, k3⟩
          · show strideF (a - s.start) = true
            rw [k2]; exact (c1 k1).1
          · exact k2
        · simp only [h4, decide_false, Bool.not_false, cond_true, Bool.cond_false_right, Bool.and_eq_true, decide_eq_true_eq] at hm ⊢
          exact ⟨hr, hm.1, hm.2, trivial⟩
theorem stamp_lt (l : List Stm) (hc : checkF l = true) : ∀ (i : Nat), i ≤ l.length → 1 ≤ stampR l i ∧ ∀ j, j < i → (l.getD j zeroS).stamp < stampR l i
  | 0, _ => ⟨by simp [stampR], by simp⟩
  | i + 1, hi => by
    have ih := stamp_lt l hc i (by omega)
    have hs := ((rightF_iff _).1 (right_of hc i (by omega))).2.2.1
    simp only [stampR]
    rw [wrapI (by omega) (by omega)]
    refine ⟨by omega, fun j hj => ?_⟩
    by_cases e : j = i
    · subst e; omega
    · have := ih.2 j (by omega); omega
theorem getD_set (l : List Stm) (j : Nat) (s : Stm) (i : Nat) (hj : j < l.length) : (l.set j s).getD i zeroS = if i = j then s else l.getD i zeroS := by
  simp only [List.getD_eq_getElem?_getD, List.getElem?_set]
  by_cases h : j = i
  · subst h; simp [hj]
  · simp [h, Ne.symm h]
theorem getD_app (l : List Stm) (s : Stm) (i : Nat) : (l ++ [s]).getD i zeroS = if i = l.length then s else if i < l.length then l.getD i zeroS else zeroS := by
  simp only [List.getD_eq_getElem?_getD]
  by_cases h : i < l.length
  · rw [List.getElem?_append_left h, if_neg (by omega), if_pos h]
  · rw [List.getElem?_append_right (by omega)]
    by_cases h2 : i = l.length
    · subst h2; simp
    · rw [if_neg h2, if_neg h, List.getElem?_eq_none (by simp; omega)]; rfl
theorem check_iff (l : List Stm) : checkF l = true ↔ l.length ≤ 4 ∧ (∀ i, i < l.length → rightF (l.getD i zeroS) = true) ∧ (∀ i j, i < l.length → j < l.length → (l.getD i zeroS).stamp = (l.getD j zeroS).stamp → i = j) := by
  rw [checkF_iff]
  refine and_congr_right fun _ => and_congr ⟨fun h i hi => by rw [getD_of hi]; exact h i hi, fun h i hi => by have := h i hi; rwa [getD_of hi] at this⟩ ⟨fun h i j hi hj he => ?_, fun h => ?_⟩
  · rw [getD_of hi, getD_of hj, ← stamps_get l i hi, ← stamps_get l j hj] at he
    exact (List.getElem_inj h).1 he
  · rw [List.Nodup, List.pairwise_iff_getElem]
    intro i j hi hj hlt he
    rw [stamps_len] at hi hj
    rw [stamps_get l i hi, stamps_get l j hj, ← getD_of hi, ← getD_of hj] at he
    have := h i j hi hj he
    omega
/-- One stream more, or another one in its place, with a stamp of its own. -/
theorem check_set (l : List Stm) (hc : checkF l = true) (j : Nat) (hj : j < l.length) (s : Stm) (hs : rightF s = true) (hn : ∀ i, i < l.length → (l.getD i zeroS).stamp ≠ s.stamp) : checkF (l.set j s) = true := by
  obtain ⟨h1, h2, h3⟩ := (check_iff l).1 hc
  refine (check_iff _).2 ⟨by simpa using h1, fun i hi => ?_, fun i k hi hk he => ?_⟩
  · rw [List.length_set] at hi
    rw [getD_set l j s i hj]
    split
    · exact hs
    · exact h2 i hi
  · rw [List.length_set] at hi hk
    rw [getD_set l j s i hj, getD_set l j s k hj] at he
    split at he <;> split at he
    · omega
    · exact absurd he.symm (hn k hk)
    · exact absurd he (hn i hi)
    · exact h3 i k hi hk he
theorem check_app (l : List Stm) (hc : checkF l = true) (hl : l.length < 4) (s : Stm) (hs : rightF s = true) (hn : ∀ i, i < l.length → (l.getD i zeroS).stamp ≠ s.stamp) : checkF (l ++ [s]) = true := by
  obtain ⟨h1, h2, h3⟩ := (check_iff l).1 hc
  refine (check_iff _).2 ⟨by simp; omega, fun i hi => ?_, fun i k hi hk he => ?_⟩
  · rw [List.length_append, List.length_singleton] at hi
    rw [getD_app]
    split
    · exact hs
    · rw [if_pos (by omega)]; exact h2 i (by omega)
  · rw [List.length_append, List.length_singleton] at hi hk
    rw [getD_app, getD_app] at he
    by_cases e1 : i = l.length <;> by_cases e2 : k = l.length
    · omega
    · rw [if_pos e1, if_neg e2, if_pos (by omega)] at he
      exact absurd he.symm (hn k (by omega))
    · rw [if_neg e1, if_pos e2, if_pos (by omega)] at he
      exact absurd he (hn i (by omega))
    · rw [if_neg e1, if_neg e2, if_pos (by omega), if_pos (by omega)] at he
      exact h3 i k (by omega) (by omega) he
theorem withStamp_right (s : Stm) (n : Int) (hs : rightF s = true) (hn : 0 ≤ n ∧ n ≤ 1000000) : rightF (withStamp s n) = true := by
  obtain ⟨a1, a2, -, a4, a5, a6, a7⟩ := (rightF_iff s).1 hs
  exact rightF_mk a1 a2 hn a4 a5 a6 a7
/-- What Feed leaves where it finds no error. -/
structure Fed (l : List Stm) (a b : Int) (m : List Stm) (k : Int) : Prop where
  chk : checkF m = true
  len : l.length ≤ m.length ∧ m.length ≤ l.length + 1
  lo : 0 ≤ k
  hi : k < m.length
  start : (m.getD k.toNat zeroS).start ≤ a
  stop : b ≤ (m.getD k.toNat zeroS).stop
  other : ∀ i, i < l.length → (i : Int) ≠ k → m.getD i zeroS = l.getD i zeroS
theorem feed_err (l : List Stm) (a b : Int) (h : (feedR l a b).2.2 ≠ 0) : (feedR l a b).1 = l := by
  revert h
  unfold feedR
  cases checkF l <;> cases validF a b <;> cases decide (1000000 < stampR l l.length) <;> cases decide (0 ≤ bestR l a b l.length) <;> cases decide ((l.length : Int) < 4) <;> simp
theorem best_taken (l : List Stm) (a b : Int) : ∀ i : Nat, 0 ≤ bestR l a b i → (matchesF (l.getD (bestR l a b i).toNat zeroS) a b).2 = true
  | 0, h => by simp [bestR] at h
  | i + 1, h => by
    simp only [bestR] at h ⊢
    cases ht : takeR l a b (l.getD i zeroS) (bestR l a b i) with
    | true =>
      simp only [takeR, Bool.and_eq_true] at ht
      simp only [cond_true, Int.toNat_natCast]
      exact ht.1
    | false =>
      rw [ht] at h
      exact best_taken l a b i h
theorem feed_ok (l : List Stm) (a b : Int) (h : (feedR l a b).2.2 = 0) : checkF l = true ∧ validF a b = true ∧ stampR l l.length ≤ 1000000 ∧ Fed l a b (feedR l a b).1 (feedR l a b).2.1 := by
  unfold feedR at h ⊢
  cases hc : checkF l with
  | false => rw [hc] at h; simp at h
  | true =>
    cases hv : validF a b with
    | false => rw [hc, hv] at h; simp at h
    | true =>
      simp only [hc, hv, Bool.not_true, cond_false] at h ⊢
      by_cases hs : 1000000 < stampR l l.length
      · simp [hs] at h
      · simp only [hs, decide_false, cond_false] at h ⊢
        have h4 := ((check_iff l).1 hc).1
        have st := stamp_lt l hc l.length (Nat.le_refl _)
        have hb := bestR_in l a b l.length
        have hle := leastR_in l l.length
        obtain ⟨v1, v2, v3⟩ := (validF_iff a b).1 hv
        have hnew : rightF (⟨1, a, b, 0, 0, stampR l l.length⟩ : Stm) = true := rightF_mk (by simp; omega) (by simp) (by simp; omega) (by simp) (by simp) (by simp) (by simp)
        refine ⟨trivial, trivial, by omega, ?_⟩
        by_cases hb0 : 0 ≤ bestR l a b l.length
        · simp only [hb0, decide_true, cond_true]
          have hj : (bestR l a b l.length).toNat < l.length := by omega
          obtain ⟨m1, m2, m3, m4⟩ := matches_ok _ a b (right_of hc _ hj) hv (best_taken l a b l.length hb0)
          refine ⟨check_set l hc _ hj _ (withStamp_right _ _ m1 (by omega)) (fun i hi => ?_), by simp, hb0, by simp; omega, ?_, ?_, fun i hi hne => ?_⟩
          · have := st.2 i hi; simp only [withStamp]; omega
          · rw [getD_set _ _ _ _ hj, if_pos rfl]; exact m2
          · rw [getD_set _ _ _ _ hj, if_pos rfl]; exact m3
          · rw [getD_set _ _ _ _ hj, if_neg (by omega)]
        · simp only [hb0, decide_false, cond_false]
          by_cases h5 : (l.length : Int) < 4
          · simp only [h5, decide_true, cond_true]
            refine ⟨check_app l hc (by omega) _ hnew (fun i hi => by have := st.2 i hi; show _ ≠ stampR l l.length; omega), by simp, by simp, by rw [List.length_append]; simp; omega, ?_, ?_, fun i hi hne => ?_⟩
            · rw [getD_app, Int.toNat_natCast, if_pos rfl]; simp
            · rw [getD_app, Int.toNat_natCast, if_pos rfl]; simp
            · rw [getD_app, if_neg (by omega), if_pos hi]
          · simp only [h5, decide_false, cond_false]
            have hj : (leastR l l.length).toNat < l.length := by omega
            refine ⟨check_set l hc _ hj _ hnew (fun i hi => by have := st.2 i hi; show _ ≠ stampR l l.length; omega), by simp, hle.1, by simp; omega, ?_, ?_, fun i hi hne => ?_⟩
            · rw [getD_set _ _ _ _ hj, if_pos rfl]; simp
            · rw [getD_set _ _ _ _ hj, if_pos rfl]; simp
            · rw [getD_set _ _ _ _ hj, if_neg (by omega)]
theorem feed_check (l : List Stm) (a b : Int) (hc : checkF l = true) : checkF (feedR l a b).1 = true := by
  by_cases h : (feedR l a b).2.2 = 0
  · exact (feed_ok l a b h).2.2.2.chk
  · rw [feed_err l a b h]; exact hc
end Go.Proofs.YteelckbeekgfiaaDoor
