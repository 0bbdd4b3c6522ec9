/- Stream: the two Feeds agree. -/
import Derived.Test.YteelckbeekgfiaaDoorW10
import Derived.Test.YteelckbeekgfiaaDoorW11
set_option linter.unusedSimpArgs false
set_option linter.unusedVariables false
namespace Go.Proofs.YteelckbeekgfiaaDoor
open Go Go.Sk Go.RowKit

theorem foldP_least (l : List Stm) (a b : Int) : ∀ i : Nat, (foldP l a b i).oldest = leastR l i
  | 0 => rfl
  | i + 1 => by
    have ih := foldP_least l a b i
    simp only [foldP, feedStep, leastR, feedOld]
    cases feedTake a b (l.getD i zeroS) (foldP l a b i).best <;> simp only [cond_true, cond_false, ih]
theorem getD_of {l : List Stm} {i : Nat} (h : i < l.length) : l.getD i zeroS = l[i] := by simp [List.getD_eq_getElem?_getD, h]
theorem right_of {l : List Stm} (hc : checkF l = true) (i : Nat) (h : i < l.length) : rightF (l.getD i zeroS) = true := by
  rw [getD_of h]; exact ((checkF_iff l).1 hc).2.1 i h
theorem foldP_stamp (l : List Stm) (a b : Int) (hc : checkF l = true) : ∀ i : Nat, i ≤ l.length → 0 ≤ (foldP l a b i).stamp ∧ (foldP l a b i).stamp ≤ 1000000 ∧ stampR l i = (foldP l a b i).stamp + 1
  | 0, _ => by simp [foldP, stampR]
  | i + 1, hi => by
    have ih := foldP_stamp l a b hc i (by omega)
    have hs := ((rightF_iff _).1 (right_of hc i (by omega))).2.2.1
    simp only [foldP, feedStep, stampR]
    rw [wrapI (by omega) (by omega)]
    cases feedTake a b (l.getD i zeroS) (foldP l a b i).best <;> simp only [cond_true, cond_false] <;> omega
theorem betterP_zero (s : Stm) : betterP s zeroS = true := by simp [betterP, zeroF, zeroS]
theorem betterP_right (s t : Stm) (h : rightF t = true) : betterP s t = betterF s t := by
  have hk := ((rightF_iff t).1 h).2.1
  have : zeroF t = false := by
    simp only [zeroF, beqF (show ¬ t.kind = 0 by omega)]; rfl
  simp [betterP, this]
theorem foldP_best (l : List Stm) (a b : Int) (hc : checkF l = true) : ∀ i : Nat, i ≤ l.length →
    (bestR l a b i = -1 ∧ (foldP l a b i).best = zeroS ∧ (foldP l a b i).next = ⟨1, a, b, 0, 0, 0⟩ ∧ (foldP l a b i).pos = l.length) ∨
    (0 ≤ bestR l a b i ∧ bestR l a b i < i ∧ (foldP l a b i).best = l.getD (bestR l a b i).toNat zeroS ∧ (foldP l a b i).next = (matchesF (l.getD (bestR l a b i).toNat zeroS) a b).1 ∧ (foldP l a b i).pos = bestR l a b i)
  | 0, _ => .inl ⟨rfl, rfl, rfl, rfl⟩
  | i + 1, hi => by
    have ih := foldP_best l a b hc i (by omega)
    have key : feedTake a b (l.getD i zeroS) (foldP l a b i).best = takeR l a b (l.getD i zeroS) (bestR l a b i) := by
      simp only [feedTake, takeR]
      rcases ih with ⟨e1, e2, -, -⟩ | ⟨e1, e2, e3, -, -⟩
      · rw [e1, e2, betterP_zero]; simp
      · rw [e3, betterP_right _ _ (right_of hc _ (by omega))]
        simp [show ¬ bestR l a b i < 0 by omega]
    simp only [foldP, feedStep, bestR, key]
    cases takeR l a b (l.getD i zeroS) (bestR l a b i) with
    | true =>
      right
      simp only [cond_true, Int.toNat_natCast]
      refine ⟨by omega, by omega, ?_, ?_, ?_⟩ <;> first | rfl | trivial
    | false =>
      simp only [cond_false]
      rcases ih with h | h
      · exact .inl h
      · exact .inr ⟨h.1, by omega, h.2.2⟩
theorem feedP_eq (l : List Stm) (a b : Int) : feedP l a b = feedR l a b := by
  unfold feedP feedR
  cases hc : checkF l with
  | false => rfl
  | true =>
    cases hv : validF a b with
    | false => rfl
    | true =>
      simp only [Bool.not_true, cond_false]
      have h4 := ((checkF_iff l).1 hc).1
      obtain ⟨s1, s2, s3⟩ := foldP_stamp l a b hc l.length (by omega)
      have s4 : ((foldP l a b l.length).stamp == 1000000) = decide (1000000 < stampR l l.length) := by
        rw [s3, Bool.eq_iff_iff]; simp; omega
      rw [s4]
      cases hs : decide (1000000 < stampR l l.length) with
      | true => rfl
      | false =>
        simp only [cond_false]
        have hnx : feedNext (foldP l a b l.length) = withStamp (foldP l a b l.length).next (stampR l l.length) := by
          simp only [feedNext, withStamp]
          rw [wrapI (by omega) (by omega), s3]
        have hle := leastR_in l l.length
        rw [hnx]
        rcases foldP_best l a b hc l.length (by omega) with ⟨e1, e2, e3, e4⟩ | ⟨e1, e2, e3, e4, e5⟩
        · rw [e1, e3]
          by_cases h5 : l.length = 4
          · have hat : feedAt l (foldP l a b l.length) = leastR l l.length := by
              simp only [feedAt, e4, foldP_least, beqT (show ((l.length : Nat) : Int) = 4 by omega), cond_true]
            rw [hat, beqF (show ¬ leastR l l.length = (l.length : Int) by omega)]
            simp [h5, withStamp]
          · have hat : feedAt l (foldP l a b l.length) = l.length := by
              simp only [feedAt, e4, beqF (show ¬ ((l.length : Nat) : Int) = 4 by omega), cond_false]
            rw [hat, beqT rfl]
            simp [show ((l.length : Nat) : Int) < 4 by omega, withStamp]
        · have hat : feedAt l (foldP l a b l.length) = bestR l a b l.length := by
            simp only [feedAt, e5, beqF (show ¬ bestR l a b l.length = 4 by omega), cond_false]
          rw [hat, beqF (show ¬ bestR l a b l.length = (l.length : Int) by omega), e4]
          simp [e1]
end Go.Proofs.YteelckbeekgfiaaDoor
