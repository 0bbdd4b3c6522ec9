/- Stream: Predict. -/
import Derived.Test.YteelckbeekgfiaaDoorW9
set_option linter.unusedSimpArgs false
set_option linter.unusedVariables false
namespace Go.Proofs.YteelckbeekgfiaaDoor
open Go Go.Sk Go.RowKit

/-- One page after the other: 'f' steps. -/
def genP (step n : Int) : Nat → Int → Int → Int → List Int → Option (List Int)
  | 0, _, _, _, _ => none
  | f + 1, fr, to, p, out => bif decide (p < to) then (bif (decide (n ≤ (out.length : Int)) || decide (p < 0)) || decide (255 < p) then some out else genP step n f fr to (IntKind.i64.wrap (p + 1)) (out ++ [p]))
      else genP step n f (IntKind.i64.wrap (fr + step)) (IntKind.i64.wrap (to + step)) (IntKind.i64.wrap (fr + step)) out
def preFrom (s : Stm) : Int := bif s.kind == 2 then IntKind.i64.wrap (s.stop - 1) else s.start
def preTo (s : Stm) : Int := bif s.kind == 2 then s.stop else bif s.kind == 3 then IntKind.i64.wrap (s.start + 1) else s.stop
def preStep (s : Stm) : Int := bif s.kind == 2 then 1 else bif s.kind == 3 then -1 else s.step
def predictF (s : Stm) (n : Int) : List Int :=
  bif !rightF s || s.kind == 1 then [] else (genP (preStep s) n 5000 (preFrom s) (preTo s) (preTo s) []).getD []
theorem rightF_iff (s : Stm) : rightF s = true ↔ (0 ≤ s.start ∧ s.start < s.stop ∧ s.stop ≤ 256) ∧ (1 ≤ s.kind ∧ s.kind ≤ 4) ∧ (0 ≤ s.stamp ∧ s.stamp ≤ 1000000) ∧ (0 ≤ s.hits ∧ s.hits ≤ 1000000) ∧ (s.hits = 0 ↔ s.kind = 1) ∧
    (s.kind = 4 → strideF s.step = true ∧ s.stop - s.start ≤ sizeF s.step) ∧ (s.kind ≠ 4 → s.step = 0) := by
  simp only [rightF, rightA, rightB, rightT, validF]
  by_cases h4 : s.kind = 4
  · rw [if_pos (beqT h4)]
    by_cases hv : 0 ≤ s.start ∧ s.start < s.stop ∧ s.stop ≤ 256
    · rw [wrapI (by omega) (by omega)]
      by_cases hst : strideF s.step = true
      · by_cases hsz : s.stop - s.start ≤ sizeF s.step
        · by_cases h5 : s.hits = 0 <;> simp [h4, h5, hst, hsz] <;> omega
        · by_cases h5 : s.hits = 0 <;> simp [h4, h5, hst, hsz] <;> omega
      · by_cases h5 : s.hits = 0 <;> simp [h4, h5, hst] <;> omega
    · by_cases h5 : s.hits = 0 <;> simp [h4, h5] <;> omega
  · rw [if_neg (by simpa using h4)]
    by_cases h5 : s.hits = 0 <;> by_cases h6 : s.kind = 1 <;> by_cases h7 : s.step = 0 <;> simp [h4, h5, h6, h7, beqF] <;> omega
theorem strideF_iff (n : Int) : strideF n = true ↔ (-8 ≤ n ∧ n ≤ -2) ∨ (2 ≤ n ∧ n ≤ 8) := by simp [strideF]
theorem sizeF_eq (n : Int) (h : -1000 ≤ n) (h' : n ≤ 1000) : sizeF n = max n (-n) := by rw [sizeF, wrapI (by omega) (by omega)]; omega
/-- Upwards. -/
theorem genP_up (step n : Int) (h1 : 1 ≤ step) (h2 : step ≤ 8) : ∀ (f : Nat) (fr to p : Int) (out : List Int), -1 ≤ fr → fr < to → to - fr ≤ step → fr ≤ p → p ≤ to → to ≤ 300 → 2 * (300 - p) + 4 + (if p < to then 0 else 1) ≤ f → ∃ r, genP step n f fr to p out = some r
  | 0, fr, to, p, out, _, _, _, _, _, _, h => by omega
  | f + 1, fr, to, p, out, g1, g2, g3, g4, g5, g6, h => by
    simp only [genP]
    by_cases hp : p < to
    · simp only [hp, decide_true, cond_true]
      cases hc : (decide (n ≤ (out.length : Int)) || decide (p < 0)) || decide (255 < p) with
      | true => exact ⟨_, rfl⟩
      | false =>
        simp only [cond_false]
        simp at hc
        rw [wrapI (by omega) (by omega)]
        rw [if_pos hp] at h
        exact genP_up step n h1 h2 f fr to (p + 1) _ g1 g2 g3 (by omega) (by omega) g6 (by split <;> omega)
    · simp only [hp, decide_false, cond_false]
      rw [wrapI (by omega) (by omega), wrapI (by omega) (by omega)]
      rw [if_neg hp] at h
      by_cases hb : 255 < fr + step
      · cases f with
        | zero => omega
        | succ f =>
          simp only [genP]
          rw [decide_eq_true (by omega : fr + step < to + step), decide_eq_true hb]
          simp
      · exact genP_up step n h1 h2 f (fr + step) (to + step) (fr + step) _ (by omega) (by omega) (by omega) (by omega) (by omega) (by omega) (by rw [if_pos (by omega)]; omega)
/-- Downwards. -/
theorem genP_down (step n : Int) (h1 : step ≤ -1) (h2 : -8 ≤ step) : ∀ (f : Nat) (fr to p : Int) (out : List Int), -20 ≤ fr → fr < to → to - fr ≤ -step → fr ≤ p → p ≤ to → to ≤ 300 → 10 * (fr + 30) + (to - p) + 4 ≤ f → ∃ r, genP step n f fr to p out = some r
  | 0, fr, to, p, out, _, _, _, _, _, _, h => by omega
  | f + 1, fr, to, p, out, g1, g2, g3, g4, g5, g6, h => by
    simp only [genP]
    by_cases hp : p < to
    · simp only [hp, decide_true, cond_true]
      cases hc : (decide (n ≤ (out.length : Int)) || decide (p < 0)) || decide (255 < p) with
      | true => exact ⟨_, rfl⟩
      | false =>
        simp only [cond_false]
        simp at hc
        rw [wrapI (by omega) (by omega)]
        exact genP_down step n h1 h2 f fr to (p + 1) _ g1 g2 g3 (by omega) (by omega) g6 (by omega)
    · simp only [hp, decide_false, cond_false]
      rw [wrapI (by omega) (by omega), wrapI (by omega) (by omega)]
      by_cases hb : fr + step < 0
      · cases f with
        | zero => omega
        | succ f =>
          simp only [genP]
          rw [decide_eq_true (by omega : fr + step < to + step), decide_eq_true hb]
          simp
      · exact genP_down step n h1 h2 f (fr + step) (to + step) (fr + step) _ (by omega) (by omega) (by omega) (by omega) (by omega) (by omega) (by omega)
theorem genP_some (s : Stm) (n : Int) (hr : rightF s = true) (hk : s.kind ≠ 1) : ∃ r, genP (preStep s) n 5000 (preFrom s) (preTo s) (preTo s) [] = some r := by
  obtain ⟨⟨a1, a2, a3⟩, ⟨b1, b2⟩, -, -, -, c1, c2⟩ := (rightF_iff s).1 hr
  simp only [preStep, preFrom, preTo]
  by_cases k2 : s.kind = 2
  · simp only [beqT k2, cond_true]
    rw [wrapI (by omega) (by omega)]
    exact genP_up 1 n (by omega) (by omega) _ _ _ _ _ (by omega) (by omega) (by omega) (by omega) (by omega) (by omega) (by split <;> omega)
  · by_cases k3 : s.kind = 3
    · simp only [beqF k2, beqT k3, cond_true, cond_false]
      rw [wrapI (by omega) (by omega)]
      exact genP_down (-1) n (by omega) (by omega) _ _ _ _ _ (by omega) (by omega) (by omega) (by omega) (by omega) (by omega) (by omega)
    · simp only [beqF k2, beqF k3, cond_false]
      obtain ⟨d1, d2⟩ := c1 (by omega)
      rcases (strideF_iff _).1 d1 with d | d
      · rw [sizeF_eq _ (by omega) (by omega)] at d2
        exact genP_down s.step n (by omega) (by omega) _ _ _ _ _ (by omega) (by omega) (by omega) (by omega) (by omega) (by omega) (by omega)
      · rw [sizeF_eq _ (by omega) (by omega)] at d2
        exact genP_up s.step n (by omega) (by omega) _ _ _ _ _ (by omega) (by omega) (by omega) (by omega) (by omega) (by omega) (by split <;> omega)
end Go.Proofs.YteelckbeekgfiaaDoor
