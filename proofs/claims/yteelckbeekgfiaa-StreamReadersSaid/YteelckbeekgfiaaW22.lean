/- Stream: readers that take turns: the plain law. -/
import Derived.Test.YteelckbeekgfiaaW18b
set_option linter.unusedSimpArgs false
set_option linter.unusedVariables false
namespace Go.Proofs.Yteelckbeekgfiaa
open Go Go.Sk Go.RowKit

theorem no_match' (s : Stm) (a : Int) (hr : rightF s = true) (h1 : s.stop = s.start + 1) (h0 : 0 ≤ a) (h2 : a ≤ 255) (hd : a - s.start ≤ -9 ∨ 9 ≤ a - s.start) : (matchesF s a (a + 1)).2 = false := by
  obtain ⟨⟨a1, a2, a3⟩, -, -, -, -, c1, -⟩ := (rightF_iff s).1 hr
  have hv : validF a (a + 1) = true := (validF_iff _ _).2 ⟨h0, by omega, by omega⟩
  have k1 : kc1 s a (a + 1) = false := by
    rw [Bool.eq_false_iff]; intro h
    have := (kc1_iff s a (a + 1) (by omega)).1 h
    omega
  have k2 : kc2 s a (a + 1) = false := by
    rw [Bool.eq_false_iff]; intro h
    have := (kc2_iff s a (a + 1) (by omega)).1 h
    omega
  have k3 : kc3 s a = true := by
    cases h : kc3 s a with
    | true => rfl
    | false =>
      rcases (kc3_iff s a ⟨a1, a2, a3⟩ ⟨by omega, by omega⟩).1 h with ⟨q1, q2⟩ | ⟨q1, q2, q3⟩
      · rcases (strideF_iff _).1 (c1 q1).1 with r | r <;> omega
      · rcases (strideF_iff _).1 q2 with r | r <;> omega
  simp only [matchesF, hr, hv, kindF, k1, k2, k3, Bool.not_true, Bool.or_self, cond_false, Bool.false_eq_true, if_false, if_true, Bool.not_false, cond_true, Bool.cond_false_right]
  rw [Bool.and_eq_false_iff]
  simp
  omega
theorem bestR_one (l : List Stm) (a b : Int) (j : Nat) : ∀ n : Nat, (∀ i, i < n → i ≠ j → (matchesF (l.getD i zeroS) a b).2 = false) → (matchesF (l.getD j zeroS) a b).2 = true → bestR l a b n = if j < n then (j : Int) else -1
  | 0, _, _ => rfl
  | n + 1, h, hj => by
    have ih := bestR_one l a b j n (fun i hi hne => h i (by omega) hne) hj
    by_cases e : n = j
    · subst e
      rw [if_neg (by omega)] at ih
      have : takeR l a b (l.getD n zeroS) (bestR l a b n) = true := by simp only [takeR, hj, ih, show (-1 : Int) < 0 by omega, decide_true, Bool.true_or, Bool.and_self]
      simp only [bestR, this, cond_true, if_pos (Nat.lt_succ_self n)]
    · have : takeR l a b (l.getD n zeroS) (bestR l a b n) = false := by simp only [takeR, h n (by omega) e, Bool.false_and]
      simp only [bestR, this, cond_false]
      rw [ih]
      by_cases h' : j < n
      · rw [if_pos h', if_pos (by omega)]
      · rw [if_neg h', if_neg (by omega)]
theorem feed_at (l : List Stm) (a b : Int) (hc : checkF l = true) (hv : validF a b = true) (hs : stampR l l.length ≤ 1000000) (j : Nat) (hj : j < l.length) (hb : bestR l a b l.length = j) :
    feedR l a b = (l.set j (withStamp (matchesF (l.getD j zeroS) a b).1 (stampR l l.length)), (j : Int), 0) := by
  simp only [feedR, hc, hv, hb, Bool.not_true, cond_false, show ¬ 1000000 < stampR l l.length by omega, decide_false, show (0 : Int) ≤ (j : Int) by omega, decide_true, cond_true, Int.toNat_natCast]
def stp (k : Int) : Int := if k = 0 then 1 else if k = 1 then -1 else 3
/-- A reader's stream behind c accesses, of which the last was before a. -/
def rdS (k c a st : Int) : Stm := ⟨if c = 1 then 1 else k + 2, a - stp k, a - stp k + 1, if c ≠ 1 ∧ k = 2 then 3 else 0, c - 1, st⟩
theorem rdS_match (k c a st : Int) (hk : 0 ≤ k ∧ k ≤ 2) (hc : 1 ≤ c ∧ c ≤ 6) (ha : 5 ≤ a ∧ a ≤ 250) (hr : rightF (rdS k c a st) = true) :
    (matchesF (rdS k c a st) a (a + 1)).2 = true ∧ (matchesF (rdS k c a st) a (a + 1)).1 = rdS k (c + 1) (a + stp k) st := by
  have hv : validF a (a + 1) = true := (validF_iff _ _).2 ⟨by omega, by omega, by omega⟩
  have e1 : (rdS k c a st).start = a - stp k := rfl
  have e2 : (rdS k c a st).stop = a - stp k + 1 := rfl
  have e3 : (rdS k c a st).kind = if c = 1 then 1 else k + 2 := rfl
  have e4 : (rdS k c a st).hits = c - 1 := rfl
  have e5 : (rdS k c a st).step = if c ≠ 1 ∧ k = 2 then 3 else 0 := rfl
  have e6 : (rdS k c a st).stamp = st := rfl
  have hs : stp k = (if k = 0 then 1 else if k = 1 then -1 else 3) := rfl
  have q1 := kc1_iff (rdS k c a st) a (a + 1) (by rw [e2]; split at hs <;> (try split at hs) <;> omega)
  have q2 := kc2_iff (rdS k c a st) a (a + 1) (by rw [e1]; split at hs <;> (try split at hs) <;> omega)
  have q3 := kc3_iff (rdS k c a st) a (by rw [e1, e2]; split at hs <;> (try split at hs) <;> omega) (by omega)
  simp only [e1, e2, e3] at q1 q2 q3
  have hw1 : IntKind.i64.wrap (c - 1 + 1) = c := by rw [wrapI (by omega) (by omega)]; omega
  have hmin : min c 1000000 = c := by omega
  simp only [matchesF, hr, hv, kindF, Bool.not_true, Bool.or_self, cond_false, e1, e2, e4, e6, hw1, hmin]
  by_cases k0 : k = 0
  · subst k0
    have : kc1 (rdS 0 c a st) a (a + 1) = true := q1.2 (by simp only [stp, if_true]; by_cases hc1 : c = 1 <;> simp [hc1] <;> omega)
    simp only [this, if_true, Bool.not_true, cond_false, beqF (show ¬ (2 : Int) = 4 by omega)]
    refine ⟨trivial, ?_⟩
    simp [rdS, stp]
    omega
  by_cases k1 : k = 1
  · subst k1
    have n1 : kc1 (rdS 1 c a st) a (a + 1) = false := by
      rw [Bool.eq_false_iff]; intro h; have := q1.1 h; simp only [stp] at this; simp at this; omega
    have n2 : kc2 (rdS 1 c a st) a (a + 1) = true := q2.2 (by simp only [stp]; by_cases hc1 : c = 1 <;> simp [hc1] <;> omega)
    simp only [n1, n2, Bool.false_eq_true, if_false, if_true, Bool.not_true, cond_false, beqF (show ¬ (3 : Int) = 4 by omega)]
    refine ⟨trivial, ?_⟩
    simp [rdS, stp]
    omega
  obtain rfl : k = 2 := by omega
  have n1 : kc1 (rdS 2 c a st) a (a + 1) = false := by
    rw [Bool.eq_false_iff]; intro h; have := q1.1 h; simp only [stp] at this; simp at this; omega
  have n2 : kc2 (rdS 2 c a st) a (a + 1) = false := by
    rw [Bool.eq_false_iff]; intro h; have := q2.1 h; simp only [stp] at this; simp at this; omega
  have n3 : kc3 (rdS 2 c a st) a = false := q3.2 (by
    have : a - (a - stp 2) = 3 := by simp [stp]; omega
    rw [this]
    by_cases hc1 : c = 1
    · right; exact ⟨by simp [hc1], by decide, by rw [sizeF_eq _ (by omega) (by omega)]; omega⟩
    · left; exact ⟨by simp [hc1], by rw [e5]; simp [hc1]⟩)
  have hw2 : IntKind.i64.wrap (a - (a - stp 2)) = 3 := by rw [wrapI (by simp [stp]; omega) (by simp [stp]; omega)]; simp [stp]; omega
  have hw3 : IntKind.i64.wrap (a + 1 - a) = 1 := by rw [wrapI (by omega) (by omega)]; omega
  simp only [n1, n2, n3, Bool.false_eq_true, if_false, hw2, hw3]
  rw [sizeF_eq _ (by omega) (by omega)]
  rw [decide_eq_true (show (1 : Int) ≤ max 3 (-3) by decide)]
  simp [rdS, stp]
  try omega
theorem rdS_right (k c a st : Int) (hk : 0 ≤ k ∧ k ≤ 2) (hc : 1 ≤ c ∧ c ≤ 7) (ha : 5 ≤ a ∧ a ≤ 250) (hst : 0 ≤ st ∧ st ≤ 1000000) : rightF (rdS k c a st) = true := by
  have hs : stp k = (if k = 0 then 1 else if k = 1 then -1 else 3) := rfl
  refine rightF_mk ?_ ?_ hst ?_ ?_ ?_ ?_
  · simp only [rdS]; split at hs <;> (try split at hs) <;> omega
  · simp only [rdS]; split <;> omega
  · simp only [rdS]; omega
  · simp only [rdS]; split <;> omega
  · simp only [rdS]
    intro h
    have h1 : c ≠ 1 ∧ k = 2 := by split at h <;> omega
    rw [if_pos h1]
    exact ⟨by decide, by rw [sizeF_eq _ (by omega) (by omega)]; omega⟩
  · simp only [rdS]
    intro h
    rw [if_neg]
    rintro ⟨h1, h2⟩
    rw [if_neg h1] at h
    omega
theorem rdS_sure (k c a st : Int) (hr : rightF (rdS k c a st) = true) (hc : 3 ≤ c) : sureF (rdS k c a st) = true := by
  simp only [sureF, hr, Bool.true_and, decide_eq_true_eq]; show 2 ≤ c - 1; omega
theorem genP_one (step : Int) (f : Nat) (fr to : Int) (h : IntKind.i64.wrap (fr + step) < IntKind.i64.wrap (to + step)) (h0 : 0 ≤ IntKind.i64.wrap (fr + step)) (h1 : IntKind.i64.wrap (fr + step) ≤ 255) (h2 : step ≠ 0) (h3 : -10 ≤ step ∧ step ≤ 10) (h4 : -1000 ≤ to ∧ to ≤ 1000) (h5 : -1000 ≤ fr ∧ fr ≤ 1000) :
    genP step 1 (f + 1 + 1 + 1 + 1) fr to to [] = some [IntKind.i64.wrap (fr + step)] := by
  rw [genP]
  simp only [Int.lt_irrefl, decide_false, cond_false]
  rw [genP]
  simp only [h, decide_true, cond_true, List.length_nil, show ¬ (1 : Int) ≤ ((0 : Nat) : Int) by omega, show ¬ IntKind.i64.wrap (fr + step) < 0 by omega, show ¬ 255 < IntKind.i64.wrap (fr + step) by omega, decide_false, Bool.or_self, cond_false, List.nil_append]
  rw [genP]
  by_cases h6 : IntKind.i64.wrap (IntKind.i64.wrap (fr + step) + 1) < IntKind.i64.wrap (to + step)
  · simp only [h6, decide_true, cond_true, List.length_singleton, show (1 : Int) ≤ ((1 : Nat) : Int) by omega, Bool.true_or]
  · simp only [h6, decide_false, cond_false]
    rw [genP]
    have w1 : IntKind.i64.wrap (fr + step) = fr + step := wrapI (by omega) (by omega)
    have w2 : IntKind.i64.wrap (to + step) = to + step := wrapI (by omega) (by omega)
    rw [w1, w2] at h ⊢
    rw [wrapI (n := fr + step + step) (by omega) (by omega), wrapI (n := to + step + step) (by omega) (by omega)]
    simp only [show fr + step + step < to + step + step by omega, decide_true, cond_true, List.length_singleton, show (1 : Int) ≤ ((1 : Nat) : Int) by omega, Bool.true_or]
theorem rdS_predict (k c a st : Int) (hk : 0 ≤ k ∧ k ≤ 2) (hc : 2 ≤ c ∧ c ≤ 6) (ha : 5 ≤ a ∧ a ≤ 250) (hr : rightF (rdS k c a st) = true) : predictF (rdS k c a st) 1 = [a] := by
  have hkind : (rdS k c a st).kind = k + 2 := by simp only [rdS]; rw [if_neg (by omega)]
  have hstep : (rdS k c a st).step = if k = 2 then 3 else 0 := by simp only [rdS]; by_cases h : k = 2 <;> simp [h] <;> omega
  have e1 : (rdS k c a st).start = a - stp k := rfl
  have e2 : (rdS k c a st).stop = a - stp k + 1 := rfl
  have key : genP (preStep (rdS k c a st)) 1 (4996 + 1 + 1 + 1 + 1) (preFrom (rdS k c a st)) (preTo (rdS k c a st)) (preTo (rdS k c a st)) [] = some [a] := by
    have hh : preStep (rdS k c a st) = stp k ∧ preFrom (rdS k c a st) = a - stp k ∧ preTo (rdS k c a st) = a - stp k + 1 := by
      simp only [preStep, preFrom, preTo, hkind, e1, e2, hstep]
      by_cases k0 : k = 0
      · subst k0; simp [stp]; rw [wrapI (by omega) (by omega)]; try omega
      by_cases k1 : k = 1
      · subst k1; simp [stp]; rw [wrapI (by omega) (by omega)]
      · obtain rfl : k = 2 := by omega
        simp [stp]
    rw [hh.1, hh.2.1, hh.2.2]
    have hs : -1 ≤ stp k ∧ stp k ≤ 3 ∧ stp k ≠ 0 := by simp only [stp]; split <;> (try split) <;> omega
    have w1 : IntKind.i64.wrap (a - stp k + stp k) = a := by rw [wrapI (by omega) (by omega)]; omega
    have w2 : IntKind.i64.wrap (a - stp k + 1 + stp k) = a + 1 := by rw [wrapI (by omega) (by omega)]; omega
    have := genP_one (stp k) 4996 (a - stp k) (a - stp k + 1) (by rw [w1, w2]; omega) (by rw [w1]; omega) (by rw [w1]; omega) hs.2.2 (by omega) (by omega) (by omega)
    rw [w1] at this
    exact this
  simp only [predictF, hr, hkind, beqF (show ¬ k + 2 = 1 by omega), Bool.not_true, Bool.or_self, cond_false]
  rw [show (5000 : Nat) = 4996 + 1 + 1 + 1 + 1 from rfl, key]; rfl
def upd (f : Nat → Int) (i : Nat) (v : Int) : Nat → Int := fun j => if j = i then v else f j
theorem upd_same (f : Nat → Int) (i : Nat) (v : Int) : upd f i v i = v := by simp [upd]
theorem upd_other (f : Nat → Int) (i : Nat) (v : Int) {j : Nat} (h : j ≠ i) : upd f i v j = f j := by simp [upd, h]
def one (c : Int) : Int := if 1 ≤ c then 1 else 0
/-- Readers and their streams. -/
structure Rd (n : Nat) (at_ cnt kd wh : Nat → Int) (l : List Stm) (T : Int) : Prop where
  chk : checkF l = true
  rng : ∀ i, i < n → 0 ≤ kd i ∧ kd i ≤ 2 ∧ 0 ≤ cnt i ∧ cnt i ≤ 6 ∧ at_ i = 20 + 60 * (i : Int) + cnt i * stp (kd i)
  off : ∀ i, n ≤ i → cnt i = 0
  own : ∀ i, i < n → 1 ≤ cnt i → 0 ≤ wh i ∧ wh i < l.length ∧ ∃ st, l.getD (wh i).toNat zeroS = rdS (kd i) (cnt i) (at_ i) st
  all : ∀ j, j < l.length → ∃ i, i < n ∧ 1 ≤ cnt i ∧ wh i = j
  len : (l.length : Int) = one (cnt 0) + one (cnt 1) + one (cnt 2) + one (cnt 3)
  stm : ∀ j, j < l.length → (l.getD j zeroS).stamp ≤ T
theorem stp_in (k : Int) : -1 ≤ stp k ∧ stp k ≤ 3 ∧ stp k ≠ 0 := by unfold stp; split <;> (try split) <;> omega
theorem mul_stp (c k : Int) (h : 0 ≤ c ∧ c ≤ 6) : -6 ≤ c * stp k ∧ c * stp k ≤ 18 := by
  unfold stp
  split
  · omega
  · split
    · omega
    · omega
theorem Rd.at_in {n : Nat} {at_ cnt kd wh : Nat → Int} {l : List Stm} {T : Int} (R : Rd n at_ cnt kd wh l T) {i : Nat} (hi : i < n) : 14 + 60 * (i : Int) ≤ at_ i ∧ at_ i ≤ 38 + 60 * (i : Int) := by
  obtain ⟨h1, h2, h3, h4, h5⟩ := R.rng i hi
  have := mul_stp (cnt i) (kd i) ⟨h3, h4⟩
  omega
theorem Rd.apart {n : Nat} {at_ cnt kd wh : Nat → Int} {l : List Stm} {T : Int} (R : Rd n at_ cnt kd wh l T) (hn : n ≤ 4) {i : Nat} (hi : i < n) {j : Nat} (hj : j < l.length) (hne : 1 ≤ cnt i → wh i ≠ j) :
    (matchesF (l.getD j zeroS) (at_ i) (at_ i + 1)).2 = false := by
  obtain ⟨k, k1, k2, k3⟩ := R.all j hj
  obtain ⟨o1, o2, st, o3⟩ := R.own k k1 k2
  have hki : k ≠ i := by rintro rfl; exact hne k2 k3
  have a1 := R.at_in hi
  have a2 := R.at_in k1
  have s1 := stp_in (kd k)
  have hr := right_of R.chk j hj
  have e : (wh k).toNat = j := by omega
  rw [e] at o3
  have h1 : (l.getD j zeroS).start = at_ k - stp (kd k) := by rw [o3]; rfl
  have h2 : (l.getD j zeroS).stop = (l.getD j zeroS).start + 1 := by rw [o3]; rfl
  exact no_match' _ _ hr h2 (by omega) (by omega) (by omega)
theorem one_len {n : Nat} {cnt : Nat → Int} {i : Nat} (hn : n ≤ 4) (hi : i < n) (h0 : cnt i = 0) : one (cnt 0) + one (cnt 1) + one (cnt 2) + one (cnt 3) ≤ 3 := by
  have h : ∀ c, 0 ≤ one c ∧ one c ≤ 1 := fun c => by unfold one; split <;> omega
  have hz : one (cnt i) = 0 := by rw [h0]; rfl
  have q0 := h (cnt 0); have q1 := h (cnt 1); have q2 := h (cnt 2); have q3 := h (cnt 3)
  match i, (show i < 4 by omega) with
  | 0, _ => omega
  | 1, _ => omega
  | 2, _ => omega
  | 3, _ => omega
theorem one_upd {cnt : Nat → Int} {i : Nat} (hi : i < 4) (c : Int) : one (upd cnt i c 0) + one (upd cnt i c 1) + one (upd cnt i c 2) + one (upd cnt i c 3) = one (cnt 0) + one (cnt 1) + one (cnt 2) + one (cnt 3) - one (cnt i) + one c := by
  match i, hi with
  | 0, _ => simp [upd]; omega
  | 1, _ => simp [upd]; omega
  | 2, _ => simp [upd]; omega
  | 3, _ => simp [upd]; try omega
theorem mul_succ' (c s : Int) : (c + 1) * s = c * s + s := by rw [Int.add_mul, Int.one_mul]
/-- A reader reads on. -/
theorem rd_step {n : Nat} {at_ cnt kd wh : Nat → Int} {l : List Stm} {T : Nat} (R : Rd n at_ cnt kd wh l T) (hn : n ≤ 4) (hT : T < 24) {i : Nat} (hi : i < n) (hc : cnt i < 6) :
    ∃ (m : List Stm) (k : Nat) (st : Int), feedR l (at_ i) (at_ i + 1) = (m, (k : Int), 0) ∧ k < m.length ∧ (0 < cnt i → wh i = k) ∧ m.getD k zeroS = rdS (kd i) (cnt i + 1) (at_ i + stp (kd i)) st ∧
      Rd n (upd at_ i (at_ i + stp (kd i))) (upd cnt i (cnt i + 1)) kd (upd wh i k) m ((T + 1 : Nat) : Int) := by
  obtain ⟨r1, r2, r3, r4, r5⟩ := R.rng i hi
  have a1 := R.at_in hi
  have sp := stp_in (kd i)
  have hv : validF (at_ i) (at_ i + 1) = true := (validF_iff _ _).2 ⟨by omega, by omega, by omega⟩
  have hst := stampR_le l T (by omega) (by omega) R.chk l.length (Nat.le_refl _) R.stm
  have hst0 := (stamp_lt l R.chk l.length (Nat.le_refl _)).1
  have hrng : ∀ j, j < n → 0 ≤ kd j ∧ kd j ≤ 2 ∧ 0 ≤ upd cnt i (cnt i + 1) j ∧ upd cnt i (cnt i + 1) j ≤ 6 ∧ upd at_ i (at_ i + stp (kd i)) j = 20 + 60 * (j : Int) + upd cnt i (cnt i + 1) j * stp (kd j) := by
    intro j hj
    by_cases e : j = i
    · subst e
      simp only [upd_same, mul_succ']
      exact ⟨r1, r2, by omega, by omega, by omega⟩
    · simp only [upd_other _ _ _ e]
      exact R.rng j hj
  have hoff : ∀ j, n ≤ j → upd cnt i (cnt i + 1) j = 0 := fun j hj => by rw [upd_other _ _ _ (by omega)]; exact R.off j hj
  by_cases h0 : cnt i = 0
  · have hb : bestR l (at_ i) (at_ i + 1) l.length = -1 := bestR_none _ _ _ _ fun j hj => R.apart hn hi hj fun h => by omega
    have hlen := R.len
    have h3 := one_len (cnt := cnt) hn hi h0
    have hl4 : l.length < 4 := by omega
    obtain ⟨k, k1, k2, k3, k4, k5, k6⟩ := feed_new l _ _ R.chk hv (by omega) hb
    obtain rfl := k6 hl4
    rw [if_pos hl4] at k5
    refine ⟨(feedR l (at_ i) (at_ i + 1)).1, l.length, stampR l l.length, Prod.ext rfl k2, k1, fun h => by omega, ?_, feed_check _ _ _ R.chk, hrng, hoff, fun j hj hcj => ?_, fun j hj => ?_, ?_, fun j hj => ?_⟩
    · rw [k3, h0]
      simp [rdS]
      try omega
    · by_cases e : j = i
      · subst e
        simp only [upd_same]
        refine ⟨by omega, by omega, stampR l l.length, ?_⟩
        rw [Int.toNat_natCast, k3, h0]
        simp [rdS]
        try omega
      · simp only [upd_other _ _ _ e] at hcj ⊢
        obtain ⟨o1, o2, st, o3⟩ := R.own j hj hcj
        refine ⟨o1, by rw [k5, List.length_append]; simp; omega, st, ?_⟩
        rw [(k4 (wh j).toNat (by rw [k5, List.length_append]; simp; omega) (by omega)).2, o3]
    · by_cases e : j = l.length
      · exact ⟨i, hi, by rw [upd_same]; omega, by rw [upd_same, e]⟩
      · obtain ⟨q1, -⟩ := k4 j hj e
        obtain ⟨x, x1, x2, x3⟩ := R.all j q1
        have : x ≠ i := by rintro rfl; omega
        exact ⟨x, x1, by rw [upd_other _ _ _ this]; exact x2, by rw [upd_other _ _ _ this]; exact x3⟩
    · rw [one_upd (by omega), k5, List.length_append, h0]
      simp [one]
      simp only [one] at hlen
      omega
    · by_cases e : j = l.length
      · rw [e, k3]; show stampR l l.length ≤ _; omega
      · obtain ⟨q1, q2⟩ := k4 j hj e
        rw [q2]; have := R.stm j q1; omega
  · have hc1 : 1 ≤ cnt i := by omega
    obtain ⟨o1, o2, st, o3⟩ := R.own i hi hc1
    obtain ⟨j0, hj0⟩ : ∃ j0 : Nat, wh i = j0 := ⟨(wh i).toNat, by omega⟩
    have hjl : j0 < l.length := by omega
    rw [hj0, Int.toNat_natCast] at o3
    have hrr := right_of R.chk j0 hjl
    rw [o3] at hrr
    obtain ⟨m1, m2⟩ := rdS_match (kd i) (cnt i) (at_ i) st ⟨r1, r2⟩ ⟨hc1, by omega⟩ (by omega) hrr
    have hb : bestR l (at_ i) (at_ i + 1) l.length = j0 := by
      rw [bestR_one l _ _ j0 l.length (fun j hj hne => R.apart hn hi hj fun _ => by omega) (by rw [o3]; exact m1), if_pos hjl]
    have hf := feed_at l _ _ R.chk hv (by omega) j0 hjl hb
    rw [o3, m2] at hf
    have hws : withStamp (rdS (kd i) (cnt i + 1) (at_ i + stp (kd i)) st) (stampR l l.length) = rdS (kd i) (cnt i + 1) (at_ i + stp (kd i)) (stampR l l.length) := rfl
    rw [hws] at hf
    have hck := feed_check l (at_ i) (at_ i + 1) R.chk
    rw [hf] at hck
    refine ⟨_, j0, stampR l l.length, hf, by simpa using hjl, fun _ => hj0, by rw [getD_set _ _ _ _ hjl, if_pos rfl], hck, hrng, hoff, fun j hj hcj => ?_, fun j hj => ?_, ?_, fun j hj => ?_⟩
    · by_cases e : j = i
      · subst e
        simp only [upd_same]
        exact ⟨by omega, by simp; omega, stampR l l.length, by rw [Int.toNat_natCast, getD_set _ _ _ _ hjl, if_pos rfl]⟩
      · simp only [upd_other _ _ _ e] at hcj ⊢
        obtain ⟨p1, p2, st', p3⟩ := R.own j hj hcj
        have hne : (wh j).toNat ≠ j0 := by
          intro he
          rw [he, o3] at p3
          have b1 := R.at_in hj
          have b2 := stp_in (kd j)
          have : at_ i - stp (kd i) = at_ j - stp (kd j) := congrArg Stm.start p3
          omega
        exact ⟨p1, by simpa using p2, st', by rw [getD_set _ _ _ _ hjl, if_neg hne, p3]⟩
    · rw [List.length_set] at hj
      obtain ⟨x, x1, x2, x3⟩ := R.all j hj
      by_cases e : x = i
      · subst e
        exact ⟨x, x1, by rw [upd_same]; omega, by rw [upd_same]; omega⟩
      · exact ⟨x, x1, by rw [upd_other _ _ _ e]; exact x2, by rw [upd_other _ _ _ e]; exact x3⟩
    · rw [one_upd (by omega), List.length_set, R.len]
      have e1 : one (cnt i) = 1 := by unfold one; rw [if_pos hc1]
      have e2 : one (cnt i + 1) = 1 := by unfold one; rw [if_pos (by omega)]
      omega
    · rw [List.length_set] at hj
      rw [getD_set _ _ _ _ hjl]
      split
      · show stampR l l.length ≤ _; omega
      · have := R.stm j hj; omega
theorem Rd.wait {n : Nat} {at_ cnt kd wh : Nat → Int} {l : List Stm} {T : Nat} (R : Rd n at_ cnt kd wh l T) : Rd n at_ cnt kd wh l ((T + 1 : Nat) : Int) :=
  ⟨R.chk, R.rng, R.off, R.own, R.all, R.len, fun j hj => by have := R.stm j hj; omega⟩
theorem Rd.start {n : Nat} {at_ kd : Nat → Int} (h : ∀ x, x < n → at_ x = 20 + 60 * (x : Int) ∧ 0 ≤ kd x ∧ kd x ≤ 2) : Rd n at_ (fun _ => 0) kd (fun _ => 0) [] ((0 : Nat) : Int) :=
  ⟨by decide, fun i hi => by obtain ⟨h1, h2, h3⟩ := h i hi; exact ⟨h2, h3, by omega, by omega, by rw [h1, Int.zero_mul, Int.add_zero]⟩, fun _ _ => rfl, fun i _ h => by omega, fun j hj => by simp at hj, by simp [one], fun j hj => by simp at hj⟩
theorem stp_list (k : Int) (h : 0 ≤ k ∧ k ≤ 2) : ([1, -1, 3] : List Int).getD k.toNat 0 = stp k := by
  rcases (show k = 0 ∨ k = 1 ∨ k = 2 by omega) with rfl | rfl | rfl <;> rfl
theorem kind_list (k : Int) (h : 0 ≤ k ∧ k ≤ 2) : ([2, 3, 4] : List Int).getD k.toNat 0 = k + 2 := by
  rcases (show k = 0 ∨ k = 1 ∨ k = 2 by omega) with rfl | rfl | rfl <;> rfl
end Go.Proofs.Yteelckbeekgfiaa
