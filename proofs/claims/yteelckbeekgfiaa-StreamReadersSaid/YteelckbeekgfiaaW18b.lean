/- Stream: accesses far from all streams: the plain law. -/
import Derived.Test.YteelckbeekgfiaaW18
import Derived.Test.YteelckbeekgfiaaW3
set_option linter.unusedSimpArgs false
set_option linter.unusedVariables false
namespace Go.Proofs.Yteelckbeekgfiaa
open Go Go.Sk Go.RowKit

theorem bestR_none (l : List Stm) (a b : Int) : ∀ n : Nat, (∀ i, i < n → (matchesF (l.getD i zeroS) a b).2 = false) → bestR l a b n = -1
  | 0, _ => rfl
  | n + 1, h => by
    have ih := bestR_none l a b n fun i hi => h i (by omega)
    have : takeR l a b (l.getD n zeroS) (bestR l a b n) = false := by simp only [takeR, h n (by omega), Bool.false_and]
    simp only [bestR, this, cond_false]
    exact ih
theorem stampR_le (l : List Stm) (N : Int) (hN : 0 ≤ N) (hN' : N ≤ 1000000) (hc : checkF l = true) : ∀ n : Nat, n ≤ l.length → (∀ i, i < n → (l.getD i zeroS).stamp ≤ N) → stampR l n ≤ N + 1
  | 0, _, _ => by simp [stampR]; omega
  | n + 1, hn, h => by
    have ih := stampR_le l N hN hN' hc n (by omega) fun i hi => h i (by omega)
    have h1 := h n (by omega)
    have h2 := ((rightF_iff _).1 (right_of hc n (by omega))).2.2.1
    simp only [stampR]
    rw [wrapI (by omega) (by omega)]
    omega
theorem feed_new (l : List Stm) (a b : Int) (hc : checkF l = true) (hv : validF a b = true) (hs : stampR l l.length ≤ 1000000) (hb : bestR l a b l.length = -1) :
    ∃ k : Nat, k < (feedR l a b).1.length ∧ (feedR l a b).2 = ((k : Int), 0) ∧ (feedR l a b).1.getD k zeroS = ⟨1, a, b, 0, 0, stampR l l.length⟩ ∧
      (∀ i, i < (feedR l a b).1.length → i ≠ k → i < l.length ∧ (feedR l a b).1.getD i zeroS = l.getD i zeroS) ∧ (feedR l a b).1 = (if l.length < 4 then l ++ [⟨1, a, b, 0, 0, stampR l l.length⟩] else l.set k ⟨1, a, b, 0, 0, stampR l l.length⟩) ∧ (l.length < 4 → k = l.length) := by
  have hle := leastR_in l l.length
  have h4 := ((check_iff l).1 hc).1
  simp only [feedR, hc, hv, hb, Bool.not_true, cond_false, show ¬ 1000000 < stampR l l.length by omega, decide_false, show ¬ (0 : Int) ≤ -1 by omega]
  by_cases h5 : l.length < 4
  · have h5' : (l.length : Int) < 4 := by omega
    simp only [h5', decide_true, cond_true, if_pos h5]
    refine ⟨l.length, by simp, (by first | rfl | trivial), by rw [getD_app, if_pos rfl], fun i hi hne => ?_, (by first | rfl | trivial), fun _ => rfl⟩
    have : i < l.length := by simp at hi; omega
    exact ⟨this, by rw [getD_app, if_neg hne, if_pos this]⟩
  · have h5' : ¬ (l.length : Int) < 4 := by omega
    simp only [h5', decide_false, cond_false, if_neg h5]
    have hj : (leastR l l.length).toNat < l.length := by omega
    refine ⟨(leastR l l.length).toNat, by simpa using hj, by simp; omega, by rw [getD_set _ _ _ _ hj, if_pos rfl], fun i hi hne => ?_, rfl, fun h => absurd h h5⟩
    have : i < l.length := by simpa using hi
    exact ⟨this, by rw [getD_set _ _ _ _ hj, if_neg hne]⟩
theorem no_match (s : Stm) (a b : Int) (hr : rightF s = true) (hk : s.kind = 1) (h1 : s.stop = s.start + 1) (hb : b = a + 1) (h0 : 0 ≤ a) (h2 : a ≤ 255) (hd : a - s.start ≤ -9 ∨ 9 ≤ a - s.start) : (matchesF s a b).2 = false := by
  obtain ⟨⟨a1, a2, a3⟩, -⟩ := (rightF_iff s).1 hr
  have hv : validF a b = true := (validF_iff a b).2 ⟨h0, by omega, by omega⟩
  have k1 : kc1 s a b = false := by
    rw [Bool.eq_false_iff]; intro h
    have := (kc1_iff s a b (by omega)).1 h
    omega
  have k2 : kc2 s a b = false := by
    rw [Bool.eq_false_iff]; intro h
    have := (kc2_iff s a b (by omega)).1 h
    omega
  have k3 : kc3 s a = true := by
    cases h : kc3 s a with
    | true => rfl
    | false =>
      rcases (kc3_iff s a ⟨a1, a2, a3⟩ ⟨by omega, by omega⟩).1 h with ⟨q1, q2⟩ | ⟨q1, q2, q3⟩
      · omega
      · rcases (strideF_iff _).1 q2 with r | r <;> omega
  simp only [matchesF, hr, hv, kindF, k1, k2, k3, Bool.not_true, Bool.or_self, cond_false, Bool.false_eq_true, if_false, if_true, Bool.not_false, cond_true, Bool.cond_false_right]
  rw [Bool.and_eq_false_iff]
  simp
  omega
theorem sure_new (a b n : Int) : sureF ⟨1, a, b, 0, 0, n⟩ = false := by
  simp [sureF]
theorem predict_new (a b n k : Int) : predictF ⟨1, a, b, 0, 0, n⟩ k = [] := by
  simp [predictF]
/-- All streams are new, each at a place of its own. -/
structure Rnd (l : List Stm) (U : List Int) (n : Int) : Prop where
  chk : checkF l = true
  ev : ∀ i, i < l.length → (l.getD i zeroS).kind = 1 ∧ (l.getD i zeroS).stop = (l.getD i zeroS).start + 1 ∧ (l.getD i zeroS).stamp ≤ n ∧ ∃ x ∈ U, (l.getD i zeroS).start = 20 * x
theorem rnd_step (l : List Stm) (U : List Int) (n : Nat) (x : Int) (R : Rnd l U n) (hn : n < 12) (hx : 0 ≤ x ∧ x < 13) (hU : x ∉ U) :
    ∃ k : Nat, k < (feedR l (20 * x) (20 * x + 1)).1.length ∧ (feedR l (20 * x) (20 * x + 1)).2 = ((k : Int), 0) ∧ (feedR l (20 * x) (20 * x + 1)).1.getD k zeroS = ⟨1, 20 * x, 20 * x + 1, 0, 0, stampR l l.length⟩ ∧ Rnd (feedR l (20 * x) (20 * x + 1)).1 (x :: U) ((n + 1 : Nat) : Int) := by
  have hv : validF (20 * x) (20 * x + 1) = true := (validF_iff _ _).2 ⟨by omega, by omega, by omega⟩
  have hst := stampR_le l n (by omega) (by omega) R.chk l.length (Nat.le_refl _) fun i hi => (R.ev i hi).2.2.1
  have hb : bestR l (20 * x) (20 * x + 1) l.length = -1 := bestR_none _ _ _ _ fun i hi => by
    obtain ⟨e1, e2, -, y, hy, e3⟩ := R.ev i hi
    have : x ≠ y := fun e => hU (e ▸ hy)
    exact no_match _ _ _ (right_of R.chk i hi) e1 e2 rfl (by omega) (by omega) (by omega)
  obtain ⟨k, h1, h2, h3, h4, -, -⟩ := feed_new l _ _ R.chk hv (by omega) hb
  refine ⟨k, h1, h2, h3, feed_check _ _ _ R.chk, fun i hi => ?_⟩
  by_cases e : i = k
  · subst e
    rw [h3]
    exact ⟨rfl, rfl, by show stampR l l.length ≤ _; omega, x, by simp, rfl⟩
  · obtain ⟨q1, q2⟩ := h4 i hi e
    obtain ⟨e1, e2, e3, y, hy, e4⟩ := R.ev i q1
    rw [q2]
    exact ⟨e1, e2, by omega, y, by simp [hy], e4⟩
end Go.Proofs.Yteelckbeekgfiaa
