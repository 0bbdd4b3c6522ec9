/- Readahead: the sequential reader, in plain Lean. -/
import Derived.Test.YteelckbeekgfiaaDoorR9
set_option linter.unusedSimpArgs false
set_option linter.unusedVariables false
namespace Go.Proofs.YteelckbeekgfiaaDoor
open Go Go.Sk Go.RowKit

/-- The stream of a sequential reader behind n accesses, of which the last was from p to a. -/
def sq (n p a : Int) : Stm := ⟨if n = 1 then 1 else 2, p, a, 0, n - 1, n⟩
theorem sq_right (n p a : Int) (hn : 1 ≤ n ∧ n ≤ 100) (hp : 0 ≤ p ∧ p < a ∧ a ≤ 256) : rightF (sq n p a) = true := by
  rw [rightF_iff]
  simp only [sq]
  split <;> (refine ⟨by omega, by omega, by omega, by omega, by omega, fun h => by omega, fun _ => by first | rfl | trivial⟩)
theorem sq_sure (n p a : Int) (hn : 1 ≤ n ∧ n ≤ 100) (hp : 0 ≤ p ∧ p < a ∧ a ≤ 256) : sureF (sq n p a) = decide (3 ≤ n) := by
  rw [sureF, sq_right n p a hn hp, Bool.true_and]
  show decide (2 ≤ n - 1) = decide (3 ≤ n)
  rw [Bool.eq_iff_iff]
  simp only [decide_eq_true_eq]
  omega
theorem feed_first (a b : Int) (h : 0 ≤ a ∧ a < b ∧ b ≤ 256) : feedR [] a b = ([sq 1 a b], 0, 0) := by
  have hv := (validF_iff a b).2 h
  simp only [feedR, hv, show checkF [] = true by decide, Bool.not_true, cond_false, List.length_nil, stampR, bestR]
  rfl
theorem feed_next (n p a b : Int) (hn : 1 ≤ n ∧ n ≤ 99) (hp : 0 ≤ p ∧ p < a) (h : a < b ∧ b ≤ 256) : feedR [sq n p a] a b = ([sq (n + 1) a b], 0, 0) := by
  have hv := (validF_iff a b).2 ⟨by omega, h.1, h.2⟩
  have hr := sq_right n p a (by omega) (by omega)
  have hk : kc1 (sq n p a) a b = true := by
    rw [kc1_iff _ _ _ (by simp only [sq]; omega)]
    simp only [sq]
    refine ⟨?_, .inl (by first | rfl | trivial), h.1⟩
    split <;> simp
  have hm : matchesF (sq n p a) a b = (⟨2, a, b, 0, n, n⟩, true) := by
    have hw : IntKind.i64.wrap (n - 1 + 1) = n := by rw [wrapI (by omega) (by omega)]; omega
    simp only [matchesF, hr, hv, Bool.not_true, Bool.or_self, cond_false, kindF, hk, if_true]
    simp only [sq, hw, show min n 1000000 = n by omega]
    rfl
  have hst : stampR [sq n p a] 1 = n + 1 := by
    simp only [stampR, List.getD_cons_zero, sq]
    rw [wrapI (by omega) (by omega)]; omega
  have hb : bestR [sq n p a] a b 1 = 0 := by
    simp only [bestR, takeR, List.getD_cons_zero, hm]
    rfl
  have hc := (checkF_one (sq n p a)).trans hr
  simp only [feedR, hc, hv, Bool.not_true, cond_false, List.length_singleton, hst, hb, show ¬ 1000000 < n + 1 by omega, decide_false, Int.le_refl, decide_true, cond_true, Int.toNat_zero, List.getD_cons_zero, hm, List.set_cons_zero, withStamp]
  simp only [sq, if_neg (show ¬ n + 1 = 1 by omega), show n + 1 - 1 = n by omega]

/-- What holds ahead of an access at a: n accesses were made; the pages from A to X were read ahead. -/
structure RdI (c e n a : Int) (w : Win) (A X : Int) : Prop where
  early : n < 3 → w = zeroWin ∧ A = X
  late : 3 ≤ n → a < e → w.async = w.size ∧ 2 ≤ w.size ∧ w.size ≤ 8 ∧ c ≤ w.size ∧ 0 ≤ w.start ∧ w.start < e ∧ A ≤ a ∧ X = min (w.start + w.size) e ∧
    ((a ≤ w.start ∧ w.start - w.size ≤ a) ∨ (w.start < a ∧ e ≤ w.start + w.size))

theorem first_ge (c : Int) (h : 1 ≤ c ∧ c ≤ 3) : c ≤ firstF c := by unfold firstF; split <;> (try split) <;> omega
theorem grown_ge (n : Int) (h : 2 ≤ n ∧ n ≤ 8) : n ≤ grownF n := by unfold grownF; split <;> (try split) <;> omega

structure RdStep (c e n a b : Int) (w : Win) (A X : Int) (v : Win) (Y Z A' X' : Int) : Prop where
  plan : planF w (sq (n + 1) a b) a b e = (v, seqI Y Z, 0)
  cover : 3 ≤ n → ∀ p, a ≤ p → p < b → A ≤ p ∧ p < X
  set : ∀ p, (A' ≤ p ∧ p < X') ↔ (A ≤ p ∧ p < X) ∨ (Y ≤ p ∧ p < Z)
  new : ∀ p, Y ≤ p → p < Z → ¬ (A ≤ p ∧ p < X) ∧ b ≤ p ∧ p < e
  few : Z - Y ≤ 8
  inv : RdI c e (n + 1) b v A' X'

theorem rd_step (c e n a : Int) (w : Win) (A X : Int) (R : RdI c e n a w A X) (hc : 1 ≤ c ∧ c ≤ 3) (he : 4 ≤ e ∧ e ≤ 63) (hn : 0 ≤ n ∧ n ≤ 70) (ha : 0 ≤ a ∧ a < e) :
    ∃ v Y Z A' X', RdStep c e n a (min (a + c) e) w A X v Y Z A' X' := by
  obtain ⟨b, hb⟩ : ∃ b, b = min (a + c) e := ⟨_, rfl⟩
  rw [← hb]
  have hr := sq_right (n + 1) a b (by omega) (by omega)
  have hs := sq_sure (n + 1) a b (by omega) (by omega)
  have hg : rangeBad a b e = false := by simp only [rangeBad, Bool.or_eq_false_iff, decide_eq_false_iff_not]; omega
  have hplan : checkW w = true → planF w (sq (n + 1) a b) a b e = if 3 ≤ n + 1 then ((forwardF w a b e).1, (forwardF w a b e).2, 0) else (zeroWin, [], 0) := by
    intro hw
    simp only [planF, hw, hr, hg, hs, Bool.not_true, Bool.or_self, cond_false]
    by_cases h3 : 3 ≤ n + 1
    · simp only [h3, decide_true, Bool.not_true, cond_false, if_true]
      have : ((sq (n + 1) a b).kind == 2) = true := by simp only [sq]; rw [if_neg (by omega)]; rfl
      rw [this, cond_true]
    · simp only [h3, decide_false, Bool.not_false, cond_true, if_false]
  by_cases h2 : n + 1 < 3
  · obtain ⟨rfl, rfl⟩ := R.early (by omega)
    refine ⟨zeroWin, b, b, A, A, ?_, ?_, ?_, ?_, ?_, ?_, ?_⟩
    · rw [hplan (by decide), if_neg (by omega), seqI_nil _ _ (by omega)]
    · omega
    · intro p; omega
    · intro p; omega
    · omega
    · intro _; exact ⟨rfl, rfl⟩
    · intro h; omega
  by_cases h3 : n + 1 = 3
  · obtain ⟨rfl, rfl⟩ := R.early (by omega)
    have hf : forwardF zeroWin a b e = beginF e zeroWin b (firstF (b - a)) := by
      have h1 : onP zeroWin a b = false := by simp [onP, zeroWin]
      have h2 : offP zeroWin a b = true := by simp [offP, zeroWin]
      simp only [forwardF, h1, h2, cond_false, cond_true]
    have hfi := firstF_in (b - a)
    by_cases hbe : e ≤ b
    · refine ⟨zeroWin, b, b, A, A, ?_, ?_, ?_, ?_, ?_, ?_, ?_⟩
      · rw [hplan (by decide), if_pos (by omega), hf, beginF, if_pos hbe, seqI_nil _ _ (by omega)]
      · omega
      · intro p; omega
      · intro p; omega
      · omega
      · intro h; omega
      · intro _ h; omega
    · have hba : b - a = c := by omega
      have hge := first_ge c hc
      rw [hba] at hf hfi
      refine ⟨⟨b, firstF c, firstF c⟩, b, min (b + firstF c) e, b, min (b + firstF c) e, ?_, ?_, ?_, ?_, ?_, ?_, ?_⟩
      · rw [hplan (by decide), if_pos (by omega), hf, beginF, if_neg hbe]
      · omega
      · intro p; omega
      · intro p; omega
      · omega
      · intro h; omega
      · intro _ h
        exact ⟨rfl, by show 2 ≤ firstF c; omega, by show firstF c ≤ 8; omega, by show c ≤ firstF c; omega, by show 0 ≤ b; omega, h, Int.le_refl _, rfl, .inl ⟨Int.le_refl _, by show b - firstF c ≤ b; omega⟩⟩
  · obtain ⟨l1, l2, l3, l4, l5, l6, l7, l8, l9⟩ := R.late (by omega) ha.2
    have hw : checkW w = true := (checkW_iff w).2 (.inr ⟨by omega, by omega, by omega, by omega, by omega, by omega⟩)
    have hge := grown_ge w.size ⟨l2, l3⟩
    have hgi := grownF_in w.size
    have hm : markerF w = (w.start, true) := by
      rw [markerF_ok hw, l1]
      have : (w.size == 0) = false := by simpa using (by omega : ¬ w.size = 0)
      rw [this, cond_false, show w.start + w.size - w.size = w.start by omega]
    have hon : onP w a b = true ↔ (a ≤ w.start ∧ w.start < b) ∨ (a ≤ w.start + w.size - 1 ∧ w.start + w.size - 1 < b) := by
      simp only [onP, hm, Bool.and_eq_true, Bool.or_eq_true, decide_eq_true_eq, hasF_iff, true_and]
      omega
    have hoff : offP w a b = false := by
      simp only [offP, Bool.or_eq_false_iff, decide_eq_false_iff_not, beq_eq_false_iff_ne, ne_eq]
      omega
    by_cases hh : (a ≤ w.start ∧ w.start < b) ∨ (a ≤ w.start + w.size - 1 ∧ w.start + w.size - 1 < b)
    · have hf : forwardF w a b e = beginF e w (max (w.start + w.size) b) (grownF w.size) := by simp only [forwardF, hon.2 hh, cond_true]
      by_cases hbe : e ≤ max (w.start + w.size) b
      · refine ⟨w, b, b, A, X, ?_, ?_, ?_, ?_, ?_, ?_, ?_⟩
        · rw [hplan hw, if_pos (by omega), hf, beginF, if_pos hbe, seqI_nil _ _ (by omega)]
        · intro _ p h1 h2; omega
        · intro p; omega
        · intro p; omega
        · omega
        · intro h; omega
        · intro _ h; exact ⟨l1, l2, l3, l4, l5, l6, by omega, l8, by omega⟩
      · have hM : max (w.start + w.size) b = w.start + w.size := by omega
        rw [hM] at hbe hf
        refine ⟨⟨w.start + w.size, grownF w.size, grownF w.size⟩, w.start + w.size, min (w.start + w.size + grownF w.size) e, A, min (w.start + w.size + grownF w.size) e, ?_, ?_, ?_, ?_, ?_, ?_, ?_⟩
        · rw [hplan hw, if_pos (by omega), hf, beginF, if_neg hbe]
        · intro _ p h1 h2; omega
        · intro p; omega
        · intro p; omega
        · omega
        · intro h; omega
        · intro _ h
          exact ⟨rfl, by show 2 ≤ grownF w.size; omega, by show grownF w.size ≤ 8; omega, by show c ≤ grownF w.size; omega, by show 0 ≤ w.start + w.size; omega, by show w.start + w.size < e; omega, by omega, rfl, .inl ⟨by show b ≤ w.start + w.size; omega, by show w.start + w.size - grownF w.size ≤ b; omega⟩⟩
    · have hf : forwardF w a b e = (w, []) := by
        have : onP w a b = false := by rw [← Bool.not_eq_true, hon]; exact hh
        simp only [forwardF, this, hoff, cond_false]
      refine ⟨w, b, b, A, X, ?_, ?_, ?_, ?_, ?_, ?_, ?_⟩
      · rw [hplan hw, if_pos (by omega), hf, seqI_nil _ _ (by omega)]
      · intro _ p h1 h2; omega
      · intro p; omega
      · intro p; omega
      · omega
      · intro h; omega
      · intro _ h; exact ⟨l1, l2, l3, l4, l5, l6, by omega, l8, by omega⟩
end Go.Proofs.YteelckbeekgfiaaDoor
