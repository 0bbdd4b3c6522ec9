/- Stream: the reference's Predict: the plain law. -/
import Derived.Test.YteelckbeekgfiaaDoorW11
set_option linter.unusedSimpArgs false
set_option linter.unusedVariables false
namespace Go.Proofs.YteelckbeekgfiaaDoor
open Go Go.Sk Go.RowKit

def wFrom (s : Stm) (k : Int) : Int := bif s.kind == 3 then IntKind.i64.wrap (s.start - k) else bif s.kind == 4 then IntKind.i64.wrap (s.start + IntKind.i64.wrap (k * s.step)) else IntKind.i64.wrap (IntKind.i64.wrap (s.stop + k) - 1)
def wTo (s : Stm) (k : Int) : Int := bif s.kind == 3 then IntKind.i64.wrap (IntKind.i64.wrap (s.start - k) + 1) else bif s.kind == 4 then IntKind.i64.wrap (s.stop + IntKind.i64.wrap (k * s.step)) else IntKind.i64.wrap (s.stop + k)
def genR (s : Stm) (n : Int) : Nat → Int → Int → Int → List Int → Option (List Int)
  | 0, _, _, _, _ => none
  | f + 1, k, to, p, out => bif decide (p < to) && decide ((out.length : Int) < n) then (bif decide (p < 0) || decide (255 < p) then some out else genR s n f k to (IntKind.i64.wrap (p + 1)) (out ++ [p]))
      else bif decide ((out.length : Int) < n) && decide (IntKind.i64.wrap (k + 1) ≤ 256) then genR s n f (IntKind.i64.wrap (k + 1)) (wTo s (IntKind.i64.wrap (k + 1))) (wFrom s (IntKind.i64.wrap (k + 1))) out else some out
def headR (s : Stm) (n : Int) (f : Nat) (k : Int) (out : List Int) : Option (List Int) :=
  bif decide ((out.length : Int) < n) && decide (k ≤ 256) then genR s n f k (wTo s k) (wFrom s k) out else some out
theorem genR_succ (s : Stm) (n : Int) (f : Nat) (k to p : Int) (out : List Int) : genR s n (f + 1) k to p out = bif decide (p < to) && decide ((out.length : Int) < n) then (bif decide (p < 0) || decide (255 < p) then some out else genR s n f k to (IntKind.i64.wrap (p + 1)) (out ++ [p]))
      else headR s n f (IntKind.i64.wrap (k + 1)) out := rfl
theorem mul_bds (k st : Int) (hk : 0 ≤ k) (hk' : k ≤ 300) (h : 2 ≤ st ∧ st ≤ 8) : 2 * k ≤ k * st ∧ k * st ≤ 2400 := by
  constructor
  · rw [Int.mul_comm]; exact Int.mul_le_mul_of_nonneg_left h.1 hk
  · have h1 : k * st ≤ k * 8 := Int.mul_le_mul_of_nonneg_left h.2 hk
    omega
theorem mul_bds' (k st : Int) (hk : 0 ≤ k) (hk' : k ≤ 300) (h : -8 ≤ st ∧ st ≤ -2) : k * st ≤ -(2 * k) ∧ -2400 ≤ k * st := by
  have := mul_bds k (-st) hk hk' (by omega)
  rw [Int.mul_neg] at this
  omega
/-- What a window is, told by its bounds. -/
structure WinOK (s : Stm) (k : Int) : Prop where
  lt : wFrom s k < wTo s k
  lo : -3000 ≤ wFrom s k
  hi : wTo s k ≤ 3000
  next : wFrom s (k + 1) = wFrom s k + preStep s
  nextTo : wTo s (k + 1) = wTo s k + preStep s
  away : 257 ≤ k → wFrom s k < 0 ∨ 255 < wFrom s k
theorem winOK (s : Stm) (hr : rightF s = true) (hk : s.kind ≠ 1) (k : Int) (h1 : 0 ≤ k) (h2 : k ≤ 298) : WinOK s k := by
  obtain ⟨⟨a1, a2, a3⟩, ⟨b1, b2⟩, -, -, -, c1, c2⟩ := (rightF_iff s).1 hr
  have key : ∀ j, 0 ≤ j → j ≤ 299 → (s.kind = 2 → wFrom s j = s.stop + j - 1 ∧ wTo s j = s.stop + j) ∧ (s.kind = 3 → wFrom s j = s.start - j ∧ wTo s j = s.start - j + 1) ∧ (s.kind = 4 → wFrom s j = s.start + j * s.step ∧ wTo s j = s.stop + j * s.step) := by
    intro j hj hj'
    refine ⟨fun hk => ?_, fun hk => ?_, fun hk => ?_⟩
    · simp only [wFrom, wTo, beqF (show ¬ s.kind = 3 by omega), beqF (show ¬ s.kind = 4 by omega), cond_false]
      rw [wrapI (n := s.stop + j) (by omega) (by omega), wrapI (by omega) (by omega)]; omega
    · simp only [wFrom, wTo, beqT hk, cond_true]
      rw [wrapI (n := s.start - j) (by omega) (by omega), wrapI (by omega) (by omega)]; omega
    · have hb : -2400 ≤ j * s.step ∧ j * s.step ≤ 2400 := by
        rcases (strideF_iff _).1 (c1 hk).1 with d | d
        · have := mul_bds' j s.step hj (by omega) d; omega
        · have := mul_bds j s.step hj (by omega) d; omega
      simp only [wFrom, wTo, beqF (show ¬ s.kind = 3 by omega), beqT hk, cond_true, cond_false]
      rw [wrapI (n := j * s.step) (by omega) (by omega), wrapI (by omega) (by omega), wrapI (by omega) (by omega)]; omega
  have k0 := key k h1 (by omega)
  have k1 := key (k + 1) (by omega) (by omega)
  by_cases q2 : s.kind = 2
  · have e := k0.1 q2
    have e' := k1.1 q2
    have hs : preStep s = 1 := by simp [preStep, q2]
    exact ⟨by omega, by omega, by omega, by omega, by omega, fun _ => by omega⟩
  by_cases q3 : s.kind = 3
  · have e := k0.2.1 q3
    have e' := k1.2.1 q3
    have hs : preStep s = -1 := by simp [preStep, q3]
    exact ⟨by omega, by omega, by omega, by omega, by omega, fun _ => by omega⟩
  have q4 : s.kind = 4 := by omega
  have e := k0.2.2 q4
  have e' := k1.2.2 q4
  have hs : preStep s = s.step := by simp [preStep, q4]
  rw [Int.add_mul, Int.one_mul] at e'
  rcases (strideF_iff _).1 (c1 q4).1 with d | d
  · have := mul_bds' k s.step h1 (by omega) d
    exact ⟨by omega, by omega, by omega, by omega, by omega, fun _ => by omega⟩
  · have := mul_bds k s.step h1 (by omega) d
    exact ⟨by omega, by omega, by omega, by omega, by omega, fun _ => by omega⟩
theorem preStep_in (s : Stm) (hr : rightF s = true) (hk : s.kind ≠ 1) : -8 ≤ preStep s ∧ preStep s ≤ 8 := by
  obtain ⟨-, ⟨b1, b2⟩, -, -, -, c1, c2⟩ := (rightF_iff s).1 hr
  simp only [preStep]
  by_cases q2 : s.kind = 2
  · simp [q2]
  by_cases q3 : s.kind = 3
  · simp [q3]
  simp only [beqF q2, beqF q3, cond_false]
  rcases (strideF_iff _).1 (c1 (by omega)).1 with d | d <;> omega
theorem genR_of (s : Stm) (n : Int) (hr : rightF s = true) (hk : s.kind ≠ 1) (r : List Int) : ∀ (f : Nat) (k p : Int) (out : List Int), 1 ≤ k → k ≤ 256 → -3000 ≤ p → p ≤ wTo s k →
    genP (preStep s) n f (wFrom s k) (wTo s k) p out = some r → genR s n f k (wTo s k) p out = some r
  | 0, _, _, _, _, _, _, _, h => by simp [genP] at h
  | f + 1, k, p, out, h1, h2, h3, h4, h => by
    have W := winOK s hr hk k (by omega) (by omega)
    have hst := preStep_in s hr hk
    simp only [genP] at h
    rw [genR_succ]
    by_cases hp : p < wTo s k
    · simp only [hp, decide_true, cond_true, Bool.true_and] at h ⊢
      by_cases hn : (out.length : Int) < n
      · have hn' : ¬ n ≤ (out.length : Int) := by omega
        simp only [hn, hn', decide_true, decide_false, cond_true, Bool.false_or] at h ⊢
        cases hc : decide (p < 0) || decide (255 < p) with
        | true => rw [hc] at h; exact h
        | false =>
          rw [hc] at h
          simp at hc
          simp only [cond_false] at h ⊢
          rw [wrapI (by omega) (by omega)] at h ⊢
          exact genR_of s n hr hk r f k (p + 1) _ h1 h2 (by omega) (by omega) h
      · have hn' : n ≤ (out.length : Int) := by omega
        simp only [hn', decide_true, Bool.true_or, cond_true] at h
        simp only [hn, decide_false, cond_false, headR, Bool.false_and]
        exact h
    · simp only [hp, decide_false, cond_false, Bool.false_and] at h ⊢
      have W' := winOK s hr hk (k + 1) (by omega) (by omega)
      have lo := W.lo
      have hi := W.hi
      have lt := W.lt
      rw [wrapI (n := k + 1) (by omega) (by omega)]
      rw [wrapI (n := wFrom s k + preStep s) (by omega) (by omega), wrapI (n := wTo s k + preStep s) (by omega) (by omega), ← W.next, ← W.nextTo] at h
      simp only [headR]
      by_cases hn : (out.length : Int) < n
      · by_cases hk2 : k + 1 ≤ 256
        · simp only [hn, hk2, decide_true, Bool.and_self, cond_true]
          exact genR_of s n hr hk r f (k + 1) _ out (by omega) hk2 (W'.lo) (by have := W'.lt; omega) h
        · simp only [hk2, decide_false, Bool.and_false, cond_false]
          cases f with
          | zero => simp [genP] at h
          | succ f =>
            simp only [genP, W'.lt, decide_true, cond_true] at h
            have : (decide (wFrom s (k + 1) < 0) || decide (255 < wFrom s (k + 1))) = true := by
              rcases W'.away (by omega) with q | q <;> simp [q]
            rw [Bool.or_assoc, this, Bool.or_true] at h
            exact h
      · simp only [hn, decide_false, Bool.false_and, cond_false]
        have hn' : n ≤ (out.length : Int) := by omega
        cases f with
        | zero => simp [genP] at h
        | succ f =>
          simp only [genP, W'.lt, decide_true, cond_true, hn', Bool.true_or] at h
          exact h
theorem headR_of (s : Stm) (n : Int) (hr : rightF s = true) (hk : s.kind ≠ 1) (f : Nat) (r : List Int) (h : genP (preStep s) n (f + 1 + 1) (preFrom s) (preTo s) (preTo s) [] = some r) : headR s n (f + 1) 1 [] = some r := by
  have W := winOK s hr hk 0 (by omega) (by omega)
  have W1 := winOK s hr hk 1 (by omega) (by omega)
  have e1 : IntKind.i64.wrap (preFrom s + preStep s) = wFrom s 1 ∧ IntKind.i64.wrap (preTo s + preStep s) = wTo s 1 := by
    obtain ⟨⟨a1, a2, a3⟩, ⟨b1, b2⟩, -, -, -, c1, c2⟩ := (rightF_iff s).1 hr
    simp only [preFrom, preTo, preStep, wFrom, wTo]
    by_cases q2 : s.kind = 2
    · simp only [q2, beqT rfl, cond_true, beqF (show ¬ (2 : Int) = 3 by omega), beqF (show ¬ (2 : Int) = 4 by omega), cond_false]
      rw [wrapI (n := s.stop - 1) (by omega) (by omega), wrapI (n := s.stop + 1) (by omega) (by omega)]
      exact ⟨by congr 1; omega, trivial⟩
    by_cases q3 : s.kind = 3
    · simp only [q3, beqT rfl, cond_true, beqF (show ¬ (3 : Int) = 2 by omega), cond_false]
      rw [wrapI (n := s.start + 1) (by omega) (by omega), wrapI (n := s.start - 1) (by omega) (by omega)]
      exact ⟨by rw [wrapI (by omega) (by omega)]; omega, by congr 1; omega⟩
    have q4 : s.kind = 4 := by omega
    have hst : -8 ≤ s.step ∧ s.step ≤ 8 := by rcases (strideF_iff _).1 (c1 q4).1 with d | d <;> omega
    simp only [q4, beqT rfl, cond_true, beqF (show ¬ (4 : Int) = 2 by omega), beqF (show ¬ (4 : Int) = 3 by omega), cond_false, Int.one_mul]
    rw [wrapI (n := s.step) (by omega) (by omega)]
    exact ⟨rfl, rfl⟩
  rw [genP] at h
  simp only [Int.lt_irrefl, decide_false, cond_false, e1.1, e1.2] at h
  simp only [headR]
  cases hc : decide (((([] : List Int).length : Nat) : Int) < n) && decide ((1 : Int) ≤ 256) with
  | true => exact genR_of s n hr hk r (f + 1) 1 _ [] (by omega) (by omega) W1.lo (by have := W1.lt; omega) h
  | false =>
    have hn : n ≤ 0 := by simp at hc; omega
    rw [genP] at h
    simp only [W1.lt, decide_true, cond_true] at h
    have : decide (n ≤ (([] : List Int).length : Int)) = true := by simpa using hn
    rw [this] at h
    exact h
theorem headR_some (s : Stm) (n : Int) (hr : rightF s = true) (hk : s.kind ≠ 1) : ∃ N, N ≤ 4999 ∧ headR s n N 1 [] = some (predictF s n) := by
  obtain ⟨r, h⟩ := genP_some s n hr hk
  have hq : predictF s n = r := by
    simp only [predictF, hr, beqF hk, h, Bool.not_true, Bool.false_or, cond_false, Option.getD_some]
  rw [hq]
  exact ⟨4998 + 1, by omega, headR_of s n hr hk 4998 r h⟩
end Go.Proofs.YteelckbeekgfiaaDoor
