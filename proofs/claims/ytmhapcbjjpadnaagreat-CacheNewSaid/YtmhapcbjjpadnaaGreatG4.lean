/- Caches. -/
import Derived.Test.YtmhapcbjjpadnaaGreatG3
set_option linter.unusedSimpArgs false
set_option linter.unusedVariables false
set_option maxRecDepth 40000
namespace Go.Proofs.YtmhapcbjjpadnaaGreat
open Go Go.Sk Go.RowKit

def headNe (x y : Zn) : Bool := ((((x.first != y.first || x.size != y.size) || x.min != y.min) || x.low != y.low) || x.high != y.high) || ((x.free.length : Int) != (y.free.length : Int))
def eqZ (x y : Zn) : Bool := !headNe x y && decide (x.free = y.free)
def sameR : List Zn → List Zn → Bool
  | [], [] => true
  | x :: a, y :: b => eqZ x y && sameR a b
  | _, _ => false
theorem sameR_len : ∀ (a b : List Zn), a.length ≠ b.length → sameR a b = false
  | [], [], h => absurd rfl h
  | [], _ :: _, _ => rfl
  | _ :: _, [], _ => rfl
  | x :: a, y :: b, h => by
    simp only [sameR, sameR_len a b (by simpa using h), Bool.and_false]
theorem eqZ_iff (x y : Zn) : eqZ x y = true ↔ x.first = y.first ∧ x.size = y.size ∧ x.min = y.min ∧ x.low = y.low ∧ x.high = y.high ∧ x.free = y.free := by
  simp only [eqZ, headNe, Bool.and_eq_true, Bool.not_eq_true', Bool.or_eq_false_iff, bne_eq_false_iff_eq, decide_eq_true_eq]
  constructor
  · rintro ⟨⟨⟨⟨⟨⟨h1, h2⟩, h3⟩, h4⟩, h5⟩, -⟩, h6⟩; exact ⟨h1, h2, h3, h4, h5, h6⟩
  · rintro ⟨h1, h2, h3, h4, h5, h6⟩; exact ⟨⟨⟨⟨⟨⟨h1, h2⟩, h3⟩, h4⟩, h5⟩, by rw [h6]⟩, h6⟩
theorem sameR_iff : ∀ (a b : List Zn), sameR a b = true ↔ a.length = b.length ∧ ∀ i (h : i < a.length) (h' : i < b.length), eqZ a[i] b[i] = true
  | [], [] => by simp [sameR]
  | [], _ :: _ => by simp [sameR]
  | _ :: _, [] => by simp [sameR]
  | x :: a, y :: b => by
    simp only [sameR, Bool.and_eq_true, sameR_iff a b, List.length_cons]
    constructor
    · rintro ⟨h1, h2, h3⟩
      refine ⟨by omega, fun i h h' => ?_⟩
      cases i with
      | zero => exact h1
      | succ i => exact h3 i (by omega) (by omega)
    · rintro ⟨h1, h2⟩
      exact ⟨h2 0 (by omega) (by omega), by omega, fun i h h' => h2 (i + 1) (by omega) (by omega)⟩
set_option maxRecDepth 20000 in
set_option maxHeartbeats 1000000 in
theorem ok89 (a b : List Zn) (ta tb : Bool) (ha : SmallZ a) (hb : SmallZ b) : FnC Tryz.prog 89 [] [.lst 6 ta (rowsZ a), .lst 6 tb (rowsZ b)] (.bool (sameR a b)) [] := by
  have hla := ha.len
  have hlb := hb.len
  refine fn_okX (ob0 := []) [] Tryz.func89 rfl rfl rfl rfl ?_
  generalize hk : sameR a b = q
  repeat ((conv => whnf); first | refine Cd.go ?_ | refine ⟨rfl, ?_⟩ | refine rq_dec ⟨.inl rfl, rfl⟩ ?_ | refine rq_dec rfl ?_ | refine ⟨Nat.le_of_ble_eq_true rfl, ?_⟩ | refine ⟨.inl rfl, ?_⟩ | refine ⟨fun _ => ⟨rfl, Nat.le_of_ble_eq_true rfl⟩, ?_⟩ | refine ⟨fun _ => Nat.le_of_ble_eq_true rfl, ?_⟩ | refine ⟨fun h => Bool.noConfusion h, ?_⟩)
  conv => whnf
  rw [rowsZ_len, rowsZ_len]
  refine cq_intro (fun h1 => ?_) (fun h1 => ?_) <;> try simp only [Bool.cond_true_left, Bool.cond_false_right, Bool.not_eq_true', Bool.not_eq_false', Bool.not_not] at h1
  · have h1 : a.length ≠ b.length := by simp at h1; omega
    rw [sameR_len a b h1] at hk
    subst hk
    repeat ((conv => whnf); first | refine Cd.go ?_ | refine ⟨rfl, ?_⟩ | refine rq_dec ⟨.inl rfl, rfl⟩ ?_ | refine rq_dec rfl ?_ | refine ⟨Nat.le_of_ble_eq_true rfl, ?_⟩ | refine ⟨.inl rfl, ?_⟩ | refine ⟨fun _ => ⟨rfl, Nat.le_of_ble_eq_true rfl⟩, ?_⟩ | refine ⟨fun _ => Nat.le_of_ble_eq_true rfl, ?_⟩ | refine ⟨fun h => Bool.noConfusion h, ?_⟩)
    conv => whnf
    refine ⟨[], trivial, rfl, trivial, rfl, ?_⟩
    try subst hk
    repeat' (first | exact trivial | rfl | exact .inl rfl | exact .inr rfl | exact id | exact (fun h => Bool.noConfusion h) | refine And.intro ?_ ?_)
  have h1 : a.length = b.length := by simp at h1; omega
  repeat ((conv => whnf); first | refine Cd.go ?_ | refine ⟨rfl, ?_⟩ | refine rq_dec ⟨.inl rfl, rfl⟩ ?_ | refine rq_dec rfl ?_ | refine ⟨Nat.le_of_ble_eq_true rfl, ?_⟩ | refine ⟨.inl rfl, ?_⟩ | refine ⟨fun _ => ⟨rfl, Nat.le_of_ble_eq_true rfl⟩, ?_⟩ | refine ⟨fun _ => Nat.le_of_ble_eq_true rfl, ?_⟩ | refine ⟨fun h => Bool.noConfusion h, ?_⟩)
  conv => whnf
  refine ⟨Nat, fun i => i ≤ a.length ∧ sameR (a.drop i) (b.drop i) = q, fun i => ⟨[(0, ⟨[], true, .lst 6 ta (rowsZ a)⟩), (1, ⟨[], true, .lst 6 tb (rowsZ b)⟩), (4, ⟨[], true, .bool false⟩), (5, ⟨[], true, .int .i64 (i : Int)⟩)], [], 0⟩, fun i => a.length - i, ⟨0, ⟨by omega, hk⟩, ?_⟩, fun i hI => ?_⟩
  · refine viewI [] rfl rfl ?_ rfl ?_ rfl ?_
    repeat' (first | exact trivial | rfl | exact .inl rfl | exact .inr rfl | exact id | exact (fun h => Bool.noConfusion h) | refine And.intro ?_ ?_)
  obtain ⟨hI1, hI2⟩ := hI
  repeat ((conv => whnf); first | refine Cd.go ?_ | refine ⟨rfl, ?_⟩ | refine rq_dec ⟨.inl rfl, rfl⟩ ?_ | refine rq_dec rfl ?_ | refine ⟨Nat.le_of_ble_eq_true rfl, ?_⟩ | refine ⟨.inl rfl, ?_⟩ | refine ⟨fun _ => ⟨rfl, Nat.le_of_ble_eq_true rfl⟩, ?_⟩ | refine ⟨fun _ => Nat.le_of_ble_eq_true rfl, ?_⟩ | refine ⟨fun h => Bool.noConfusion h, ?_⟩)
  conv => whnf
  rw [rowsZ_len]
  refine cq_intro (fun h2 => ?_) (fun h2 => ?_) <;> try simp only [Bool.cond_true_left, Bool.cond_false_right, Bool.not_eq_true', Bool.not_eq_false', Bool.not_not] at h2
  · have h2 : i < a.length := by simp at h2; omega
    have h2b : i < b.length := by omega
    rw [List.drop_eq_getElem_cons h2, List.drop_eq_getElem_cons h2b, sameR] at hI2
    have hfa := ha.free a[i] (List.getElem_mem h2)
    have hfb := hb.free b[i] (List.getElem_mem h2b)
    repeat ((conv => whnf); first | refine Cd.go ?_ | refine ⟨rfl, ?_⟩ | refine rq_dec ⟨.inl rfl, rfl⟩ ?_ | refine rq_dec rfl ?_ | refine ⟨Nat.le_of_ble_eq_true rfl, ?_⟩ | refine ⟨.inl rfl, ?_⟩ | refine ⟨fun _ => ⟨rfl, Nat.le_of_ble_eq_true rfl⟩, ?_⟩ | refine ⟨fun _ => Nat.le_of_ble_eq_true rfl, ?_⟩ | refine ⟨fun h => Bool.noConfusion h, ?_⟩)
    conv => whnf
    first | refine rq_dec (⟨rfl, by omega, by rw [rowsZ_len]; omega⟩) ?_ | refine gq_dec (fun _ => ⟨rfl, by omega, by rw [rowsZ_len]; omega⟩) ?_ | refine ⟨fun _ => ⟨rfl, by omega, by rw [rowsZ_len]; omega⟩, ?_⟩
    rw [Int.toNat_natCast, rowsZ_get a i h2]
    repeat ((conv => whnf); first | refine Cd.go ?_ | refine ⟨rfl, ?_⟩ | refine rq_dec ⟨.inl rfl, rfl⟩ ?_ | refine rq_dec rfl ?_ | refine ⟨Nat.le_of_ble_eq_true rfl, ?_⟩ | refine ⟨.inl rfl, ?_⟩ | refine ⟨fun _ => ⟨rfl, Nat.le_of_ble_eq_true rfl⟩, ?_⟩ | refine ⟨fun _ => Nat.le_of_ble_eq_true rfl, ?_⟩ | refine ⟨fun h => Bool.noConfusion h, ?_⟩)
    conv => whnf
    first | refine rq_dec (⟨rfl, by omega, by rw [rowsZ_len]; omega⟩) ?_ | refine gq_dec (fun _ => ⟨rfl, by omega, by rw [rowsZ_len]; omega⟩) ?_ | refine ⟨fun _ => ⟨rfl, by omega, by rw [rowsZ_len]; omega⟩, ?_⟩
    rw [Int.toNat_natCast, rowsZ_get b i h2b]
    generalize a[i] = x at hI2 hfa
    generalize b[i] = y at hI2 hfb
    repeat ((conv => whnf); first | refine Cd.go ?_ | refine ⟨rfl, ?_⟩ | refine rq_dec ⟨.inl rfl, rfl⟩ ?_ | refine rq_dec rfl ?_ | refine ⟨Nat.le_of_ble_eq_true rfl, ?_⟩ | refine ⟨.inl rfl, ?_⟩ | refine ⟨fun _ => ⟨rfl, Nat.le_of_ble_eq_true rfl⟩, ?_⟩ | refine ⟨fun _ => Nat.le_of_ble_eq_true rfl, ?_⟩ | refine ⟨fun h => Bool.noConfusion h, ?_⟩)
    conv => whnf
    rw [rowsI_len, rowsI_len]
    repeat ((conv => whnf); first | refine Cd.go ?_ | refine ⟨rfl, ?_⟩ | refine rq_dec ⟨.inl rfl, rfl⟩ ?_ | refine rq_dec rfl ?_ | refine ⟨Nat.le_of_ble_eq_true rfl, ?_⟩ | refine ⟨.inl rfl, ?_⟩ | refine ⟨fun _ => ⟨rfl, Nat.le_of_ble_eq_true rfl⟩, ?_⟩ | refine ⟨fun _ => Nat.le_of_ble_eq_true rfl, ?_⟩ | refine ⟨fun h => Bool.noConfusion h, ?_⟩)
    conv => whnf
    refine cq_intro (fun h3 => ?_) (fun h3 => ?_) <;> try simp only [Bool.cond_true_left, Bool.cond_false_right, Bool.not_eq_true', Bool.not_eq_false', Bool.not_not] at h3
    · have h3 : headNe x y = true := h3
      rw [eqZ, h3] at hI2
      have hI2 : false = q := hI2
      subst hI2
      repeat ((conv => whnf); first | refine Cd.go ?_ | refine ⟨rfl, ?_⟩ | refine rq_dec ⟨.inl rfl, rfl⟩ ?_ | refine rq_dec rfl ?_ | refine ⟨Nat.le_of_ble_eq_true rfl, ?_⟩ | refine ⟨.inl rfl, ?_⟩ | refine ⟨fun _ => ⟨rfl, Nat.le_of_ble_eq_true rfl⟩, ?_⟩ | refine ⟨fun _ => Nat.le_of_ble_eq_true rfl, ?_⟩ | refine ⟨fun h => Bool.noConfusion h, ?_⟩)
      conv => whnf
      refine ⟨[], trivial, rfl, trivial, rfl, ?_⟩
      try subst hk
      repeat' (first | exact trivial | rfl | exact .inl rfl | exact .inr rfl | exact id | exact (fun h => Bool.noConfusion h) | refine And.intro ?_ ?_)
    have h3 : headNe x y = false := h3
    rw [eqZ, h3, Bool.not_false, Bool.true_and] at hI2
    have hlen : x.free.length = y.free.length := by
      simp only [headNe, Bool.or_eq_false_iff, bne_eq_false_iff_eq] at h3; omega
    repeat ((conv => whnf); first | refine Cd.go ?_ | refine ⟨rfl, ?_⟩ | refine rq_dec ⟨.inl rfl, rfl⟩ ?_ | refine rq_dec rfl ?_ | refine ⟨Nat.le_of_ble_eq_true rfl, ?_⟩ | refine ⟨.inl rfl, ?_⟩ | refine ⟨fun _ => ⟨rfl, Nat.le_of_ble_eq_true rfl⟩, ?_⟩ | refine ⟨fun _ => Nat.le_of_ble_eq_true rfl, ?_⟩ | refine ⟨fun h => Bool.noConfusion h, ?_⟩)
    conv => whnf
    refine ⟨Nat, fun k => k ≤ x.free.length ∧ ∀ j (hj : j < k) (h : j < x.free.length) (h' : j < y.free.length), x.free[j] = y.free[j], fun k => ⟨[(0, ⟨[], true, .lst 6 ta (rowsZ a)⟩), (1, ⟨[], true, .lst 6 tb (rowsZ b)⟩), (4, ⟨[], true, .bool false⟩), (5, ⟨[], true, .int .i64 (i : Int)⟩), (6, ⟨[], true, .ptr 0 0 0⟩), (7, ⟨[], true, .ptr 1 0 0⟩), (8, ⟨[], true, .int .i64 (k : Int)⟩)], [(0, .box x.c), (1, .box y.c)], 2⟩, fun k => x.free.length - k, ⟨0, ⟨by omega, fun j hj => by omega⟩, ?_⟩, fun k hJ => ?_⟩
    · refine viewI [some ?k103_0, some ?k103_1] rfl rfl ?h3_103 ?h4_103 ?h5_103 ?h6_103 ?h7_103
      case' h7_103 => repeat' (first | exact trivial | rfl | exact .inl rfl | exact .inr rfl | exact id | exact (fun h => Bool.noConfusion h) | refine And.intro ?_ ?_)
      case' h4_103 => rfl
      case' h6_103 => rfl
      case' h3_103 => repeat' (first | exact trivial | rfl | exact .inl rfl | exact .inr rfl | exact id | exact (fun h => Bool.noConfusion h) | refine And.intro ?_ ?_)
      case' h5_103 => repeat' (first | exact trivial | rfl | exact .inl rfl | exact .inr rfl | exact id | exact (fun h => Bool.noConfusion h) | refine And.intro ?_ ?_)
    obtain ⟨hJ1, hJ2⟩ := hJ
    repeat ((conv => whnf); first | refine Cd.go ?_ | refine ⟨rfl, ?_⟩ | refine rq_dec ⟨.inl rfl, rfl⟩ ?_ | refine rq_dec rfl ?_ | refine ⟨Nat.le_of_ble_eq_true rfl, ?_⟩ | refine ⟨.inl rfl, ?_⟩ | refine ⟨fun _ => ⟨rfl, Nat.le_of_ble_eq_true rfl⟩, ?_⟩ | refine ⟨fun _ => Nat.le_of_ble_eq_true rfl, ?_⟩ | refine ⟨fun h => Bool.noConfusion h, ?_⟩)
    conv => whnf
    rw [rowsI_len]
    refine cq_intro (fun h4 => ?_) (fun h4 => ?_) <;> try simp only [Bool.cond_true_left, Bool.cond_false_right, Bool.not_eq_true', Bool.not_eq_false', Bool.not_not] at h4
    · have h4 : k < x.free.length := by simp at h4; omega
      repeat ((conv => whnf); first | refine Cd.go ?_ | refine ⟨rfl, ?_⟩ | refine rq_dec ⟨.inl rfl, rfl⟩ ?_ | refine rq_dec rfl ?_ | refine ⟨Nat.le_of_ble_eq_true rfl, ?_⟩ | refine ⟨.inl rfl, ?_⟩ | refine ⟨fun _ => ⟨rfl, Nat.le_of_ble_eq_true rfl⟩, ?_⟩ | refine ⟨fun _ => Nat.le_of_ble_eq_true rfl, ?_⟩ | refine ⟨fun h => Bool.noConfusion h, ?_⟩)
      conv => whnf
      first | refine rq_dec (⟨rfl, by omega, by rw [rowsI_len]; omega⟩) ?_ | refine gq_dec (fun _ => ⟨rfl, by omega, by rw [rowsI_len]; omega⟩) ?_ | refine ⟨fun _ => ⟨rfl, by omega, by rw [rowsI_len]; omega⟩, ?_⟩
      rw [Int.toNat_natCast, rowsI_get x.free k h4]
      repeat ((conv => whnf); first | refine Cd.go ?_ | refine ⟨rfl, ?_⟩ | refine rq_dec ⟨.inl rfl, rfl⟩ ?_ | refine rq_dec rfl ?_ | refine ⟨Nat.le_of_ble_eq_true rfl, ?_⟩ | refine ⟨.inl rfl, ?_⟩ | refine ⟨fun _ => ⟨rfl, Nat.le_of_ble_eq_true rfl⟩, ?_⟩ | refine ⟨fun _ => Nat.le_of_ble_eq_true rfl, ?_⟩ | refine ⟨fun h => Bool.noConfusion h, ?_⟩)
      conv => whnf
      first | refine rq_dec (⟨rfl, by omega, by rw [rowsI_len]; omega⟩) ?_ | refine gq_dec (fun _ => ⟨rfl, by omega, by rw [rowsI_len]; omega⟩) ?_ | refine ⟨fun _ => ⟨rfl, by omega, by rw [rowsI_len]; omega⟩, ?_⟩
      rw [Int.toNat_natCast, rowsI_get y.free k (by omega)]
      repeat ((conv => whnf); first | refine Cd.go ?_ | refine ⟨rfl, ?_⟩ | refine rq_dec ⟨.inl rfl, rfl⟩ ?_ | refine rq_dec rfl ?_ | refine ⟨Nat.le_of_ble_eq_true rfl, ?_⟩ | refine ⟨.inl rfl, ?_⟩ | refine ⟨fun _ => ⟨rfl, Nat.le_of_ble_eq_true rfl⟩, ?_⟩ | refine ⟨fun _ => Nat.le_of_ble_eq_true rfl, ?_⟩ | refine ⟨fun h => Bool.noConfusion h, ?_⟩)
      conv => whnf
      refine cq_intro (fun h5 => ?_) (fun h5 => ?_) <;> try simp only [Bool.cond_true_left, Bool.cond_false_right, Bool.not_eq_true', Bool.not_eq_false', Bool.not_not] at h5
      · have h5 : x.free[k] ≠ y.free[k]'(by omega) := by simpa using h5
        have hne : x.free ≠ y.free := fun e => h5 (by simp [e])
        rw [decide_eq_false hne, Bool.false_and] at hI2
        subst hI2
        repeat ((conv => whnf); first | refine Cd.go ?_ | refine ⟨rfl, ?_⟩ | refine rq_dec ⟨.inl rfl, rfl⟩ ?_ | refine rq_dec rfl ?_ | refine ⟨Nat.le_of_ble_eq_true rfl, ?_⟩ | refine ⟨.inl rfl, ?_⟩ | refine ⟨fun _ => ⟨rfl, Nat.le_of_ble_eq_true rfl⟩, ?_⟩ | refine ⟨fun _ => Nat.le_of_ble_eq_true rfl, ?_⟩ | refine ⟨fun h => Bool.noConfusion h, ?_⟩)
        conv => whnf
        refine ⟨[], trivial, rfl, trivial, rfl, ?_⟩
        try subst hk
        repeat' (first | exact trivial | rfl | exact .inl rfl | exact .inr rfl | exact id | exact (fun h => Bool.noConfusion h) | refine And.intro ?_ ?_)
      have h5 : x.free[k] = y.free[k]'(by omega) := by simpa using h5
      repeat ((conv => whnf); first | refine Cd.go ?_ | refine ⟨rfl, ?_⟩ | refine rq_dec ⟨.inl rfl, rfl⟩ ?_ | refine rq_dec rfl ?_ | refine ⟨Nat.le_of_ble_eq_true rfl, ?_⟩ | refine ⟨.inl rfl, ?_⟩ | refine ⟨fun _ => ⟨rfl, Nat.le_of_ble_eq_true rfl⟩, ?_⟩ | refine ⟨fun _ => Nat.le_of_ble_eq_true rfl, ?_⟩ | refine ⟨fun h => Bool.noConfusion h, ?_⟩)
      conv => whnf
      rw [wrapI (n := (k : Int) + 1) (by omega) (by omega), show ((k : Int) + 1) = ((k + 1 : Nat) : Int) by omega]
      refine ⟨k + 1, ⟨by omega, fun j hj h h' => ?_⟩, ?_, by show x.free.length - (k + 1) < x.free.length - k; omega⟩
      · by_cases e : j = k
        · subst e; exact h5
        · exact hJ2 j (by omega) h h'
      refine viewI [some 0, some 1] rfl rfl ?_ rfl ?_ rfl ?_
      repeat' (first | exact trivial | rfl | exact .inl rfl | exact .inr rfl | exact id | exact (fun h => Bool.noConfusion h) | refine And.intro ?_ ?_)
    have h4 : k = x.free.length := by simp at h4; omega
    have he : x.free = y.free := List.ext_getElem hlen fun j h h' => hJ2 j (by omega) h h'
    rw [decide_eq_true he, Bool.true_and] at hI2
    repeat ((conv => whnf); first | refine Cd.go ?_ | refine ⟨rfl, ?_⟩ | refine rq_dec ⟨.inl rfl, rfl⟩ ?_ | refine rq_dec rfl ?_ | refine ⟨Nat.le_of_ble_eq_true rfl, ?_⟩ | refine ⟨.inl rfl, ?_⟩ | refine ⟨fun _ => ⟨rfl, Nat.le_of_ble_eq_true rfl⟩, ?_⟩ | refine ⟨fun _ => Nat.le_of_ble_eq_true rfl, ?_⟩ | refine ⟨fun h => Bool.noConfusion h, ?_⟩)
    conv => whnf
    rw [wrapI (n := (i : Int) + 1) (by omega) (by omega), show ((i : Int) + 1) = ((i + 1 : Nat) : Int) by omega]
    refine ⟨i + 1, ⟨by omega, hI2⟩, ?_, by show a.length - (i + 1) < a.length - i; omega⟩
    refine viewI [] rfl rfl ?_ rfl ?_ rfl ?_
    repeat' (first | exact trivial | rfl | exact .inl rfl | exact .inr rfl | exact id | exact (fun h => Bool.noConfusion h) | refine And.intro ?_ ?_)
  have h2 : i = a.length := by simp at h2; omega
  rw [h2, List.drop_length, h1, List.drop_length, sameR] at hI2
  subst hI2
  repeat ((conv => whnf); first | refine Cd.go ?_ | refine ⟨rfl, ?_⟩ | refine rq_dec ⟨.inl rfl, rfl⟩ ?_ | refine rq_dec rfl ?_ | refine ⟨Nat.le_of_ble_eq_true rfl, ?_⟩ | refine ⟨.inl rfl, ?_⟩ | refine ⟨fun _ => ⟨rfl, Nat.le_of_ble_eq_true rfl⟩, ?_⟩ | refine ⟨fun _ => Nat.le_of_ble_eq_true rfl, ?_⟩ | refine ⟨fun h => Bool.noConfusion h, ?_⟩)
  conv => whnf
  refine ⟨[], trivial, rfl, trivial, rfl, ?_⟩
  try subst hk
  repeat' (first | exact trivial | rfl | exact .inl rfl | exact .inr rfl | exact id | exact (fun h => Bool.noConfusion h) | refine And.intro ?_ ?_)
end Go.Proofs.YtmhapcbjjpadnaaGreat

set_option maxRecDepth 40000
namespace Go.Proofs.YtmhapcbjjpadnaaGreat
open Go Go.Sk Go.RowKit

/-- The numbers from a to b. -/
def seqI (a b : Int) : List Int := (List.range (b - a).toNat).map fun (i : Nat) => a + i
theorem seqI_len (a b : Int) : (seqI a b).length = (b - a).toNat := by simp [seqI]
theorem seqI_nil (a b : Int) (h : b ≤ a) : seqI a b = [] := by
  have : (b - a).toNat = 0 := by omega
  simp [seqI, this]
theorem seqI_succ (a b : Int) (h : a ≤ b) : seqI a (b + 1) = seqI a b ++ [b] := by
  have : (b + 1 - a).toNat = (b - a).toNat + 1 := by omega
  rw [seqI, seqI, this, List.range_succ, List.map_append]
  congr 1
  simp only [List.map_cons, List.map_nil, List.cons.injEq, and_true]
  omega
theorem mem_seqI (a b x : Int) : x ∈ seqI a b ↔ a ≤ x ∧ x < b := by
  simp only [seqI, List.mem_map, List.mem_range]
  constructor
  · rintro ⟨i, h, rfl⟩; omega
  · rintro ⟨h1, h2⟩; exact ⟨(x - a).toNat, by omega, by omega⟩
theorem rowsI_snoc (l : List Int) (x : Int) : rowsI l ++ [[.int .i64 x]] = rowsI (l ++ [x]) := by rw [rowsI, rowsI, List.map_append]; rfl
theorem rowsZ_snoc (l : List Zn) (z : Zn) : rowsZ l ++ [z.c] = rowsZ (l ++ [z]) := by rw [rowsZ, rowsZ, List.map_append]; rfl
def divW (n k : Int) : Int := IntKind.i64.wrap (n.tdiv k)
def mkZ (f n : Int) : Zn := ⟨f, n, divW n 8, divW n 4, divW n 2, seqI f (f + n), false⟩
def badN (f n : Int) : Bool := (decide (n < 1) || decide (64 < n)) || decide (65 < IntKind.i64.wrap (f + n))
def newR (f : Int) : List Int → Option (List Zn)
  | [] => some []
  | n :: r => bif badN f n then none else (newR (f + n) r).map (mkZ f n :: ·)
def newF (s : List Int) : List Zn × Int := bif (s.length : Int) == 0 then ([], 1) else match newR 1 s with
  | none => ([], 2)
  | some l => (l, 0)
structure NewI (s : List Int) (i : Nat) (f : Int) (acc : List Zn) : Prop where
  le : i ≤ s.length
  len : acc.length ≤ i
  pos : 1 ≤ f ∧ f ≤ 65
  res : newR 1 s = (newR f (s.drop i)).map (acc ++ ·)
theorem badN_ok {f n : Int} (hf : 1 ≤ f ∧ f ≤ 65) (h : badN f n = false) : 1 ≤ n ∧ n ≤ 64 ∧ f + n ≤ 65 ∧ IntKind.i64.wrap (f + n) = f + n := by
  simp only [badN, Bool.or_eq_false_iff, decide_eq_false_iff_not] at h
  have : IntKind.i64.wrap (f + n) = f + n := wrapI (by omega) (by omega)
  omega
theorem NewI.bad {s : List Int} {i : Nat} {f : Int} {acc : List Zn} (h : NewI s i f acc) (hi : i < s.length) (hb : badN f s[i] = true) : newR 1 s = none := by
  rw [h.res, List.drop_eq_getElem_cons hi, newR, hb]; rfl
theorem NewI.next {s : List Int} {i : Nat} {f : Int} {acc : List Zn} (h : NewI s i f acc) (hi : i < s.length) (hb : badN f s[i] = false) : NewI s (i + 1) (f + s[i]) (acc ++ [mkZ f s[i]]) := by
  obtain ⟨a1, a2, a3, a4⟩ := badN_ok h.pos hb
  have := h.pos
  first | refine rq_dec (by omega) (rq_app (by have := h.len; simp; omega) (by omega) ?_) | refine rq_dec ⟨by omega, by have := h.len; simp; omega, by omega⟩ ?_ | refine ⟨by omega, by have := h.len; simp; omega, by omega, ?_⟩
  rw [h.res, List.drop_eq_getElem_cons hi, newR, hb, cond_false, Option.map_map]
  congr 1
  funext r
  simp
theorem NewI.done {s : List Int} {i : Nat} {f : Int} {acc : List Zn} (h : NewI s i f acc) (hi : i = s.length) : newR 1 s = some acc := by
  rw [h.res, hi, List.drop_length, newR]; simp
set_option maxRecDepth 20000 in
set_option maxHeartbeats 1000000 in
theorem ok130 (s : List Int) (t : Bool) (hs : s.length ≤ 100000) : FnC Tryz.prog 130 [] [.lst 1 t (rowsI s)] (.tup [.lst 6 false (rowsZ (newF s).1), .int .i64 (newF s).2]) [] := by
  refine fn_okX (ob0 := []) [.p 40] Tryz.func130 rfl rfl rfl rfl ?_
  generalize hk : newF s = q
  repeat ((conv => whnf); first | refine Cd.go ?_ | refine ⟨rfl, ?_⟩ | refine rq_dec ⟨.inl rfl, rfl⟩ ?_ | refine rq_dec rfl ?_ | refine ⟨Nat.le_of_ble_eq_true rfl, ?_⟩ | refine ⟨.inl rfl, ?_⟩ | refine ⟨fun _ => ⟨rfl, Nat.le_of_ble_eq_true rfl⟩, ?_⟩ | refine ⟨fun _ => Nat.le_of_ble_eq_true rfl, ?_⟩ | refine ⟨fun h => Bool.noConfusion h, ?_⟩)
  conv => whnf
  rw [rowsI_len]
  refine cq_intro (fun h1 => ?_) (fun h1 => ?_) <;> try simp only [Bool.cond_true_left, Bool.cond_false_right, Bool.not_eq_true', Bool.not_eq_false', Bool.not_not] at h1
  · simp only [newF, h1, cond_true] at hk
    subst hk
    repeat ((conv => whnf); first | refine Cd.go ?_ | refine ⟨rfl, ?_⟩ | refine rq_dec ⟨.inl rfl, rfl⟩ ?_ | refine rq_dec rfl ?_ | refine ⟨Nat.le_of_ble_eq_true rfl, ?_⟩ | refine ⟨.inl rfl, ?_⟩ | refine ⟨fun _ => ⟨rfl, Nat.le_of_ble_eq_true rfl⟩, ?_⟩ | refine ⟨fun _ => Nat.le_of_ble_eq_true rfl, ?_⟩ | refine ⟨fun h => Bool.noConfusion h, ?_⟩)
    conv => whnf
    refine ⟨[], trivial, rfl, trivial, rfl, ?_⟩
    try subst hk
    repeat' (first | exact trivial | rfl | exact .inl rfl | exact .inr rfl | exact id | exact (fun h => Bool.noConfusion h) | refine And.intro ?_ ?_)
  simp only [newF, h1, cond_false] at hk
  repeat ((conv => whnf); first | refine Cd.go ?_ | refine ⟨rfl, ?_⟩ | refine rq_dec ⟨.inl rfl, rfl⟩ ?_ | refine rq_dec rfl ?_ | refine ⟨Nat.le_of_ble_eq_true rfl, ?_⟩ | refine ⟨.inl rfl, ?_⟩ | refine ⟨fun _ => ⟨rfl, Nat.le_of_ble_eq_true rfl⟩, ?_⟩ | refine ⟨fun _ => Nat.le_of_ble_eq_true rfl, ?_⟩ | refine ⟨fun h => Bool.noConfusion h, ?_⟩)
  conv => whnf
  rw [rowsI_len]
  refine ⟨Nat × Int × List Zn, fun p => NewI s p.1 p.2.1 p.2.2, fun p => ⟨[(4, ⟨[], true, .sl 0 0 p.2.2.length⟩), (5, ⟨[], true, .int .i64 p.2.1⟩), (13, ⟨[], true, .lst 1 t (rowsI s)⟩), (14, ⟨[], true, .int .i64 (s.length : Int)⟩), (15, ⟨[], true, .int .i64 (p.1 : Int)⟩)], [(0, .row 6 (rowsZ p.2.2))], 1⟩, fun p => s.length - p.1, ⟨(0, 1, []), ⟨by simp, by simp, by decide, by simp⟩, ?_⟩, fun p hI => ?_⟩
  · refine viewI [none] rfl rfl ?_ rfl ?_ rfl ?_
    repeat' (first | exact trivial | rfl | exact .inl rfl | exact .inr rfl | exact id | exact (fun h => Bool.noConfusion h) | refine And.intro ?_ ?_)
  obtain ⟨i, f, acc⟩ := p
  have hI : NewI s i f acc := hI
  have hle := hI.le
  have hpos := hI.pos
  have hal := hI.len
  repeat ((conv => whnf); first | refine Cd.go ?_ | refine ⟨rfl, ?_⟩ | refine rq_dec ⟨.inl rfl, rfl⟩ ?_ | refine rq_dec rfl ?_ | refine ⟨Nat.le_of_ble_eq_true rfl, ?_⟩ | refine ⟨.inl rfl, ?_⟩ | refine ⟨fun _ => ⟨rfl, Nat.le_of_ble_eq_true rfl⟩, ?_⟩ | refine ⟨fun _ => Nat.le_of_ble_eq_true rfl, ?_⟩ | refine ⟨fun h => Bool.noConfusion h, ?_⟩)
  conv => whnf
  refine cq_intro (fun h3 => ?_) (fun h3 => ?_) <;> try simp only [Bool.cond_true_left, Bool.cond_false_right, Bool.not_eq_true', Bool.not_eq_false', Bool.not_not] at h3
  · have h3 : i < s.length := by simp at h3; omega
    repeat ((conv => whnf); first | refine Cd.go ?_ | refine ⟨rfl, ?_⟩ | refine rq_dec ⟨.inl rfl, rfl⟩ ?_ | refine rq_dec rfl ?_ | refine ⟨Nat.le_of_ble_eq_true rfl, ?_⟩ | refine ⟨.inl rfl, ?_⟩ | refine ⟨fun _ => ⟨rfl, Nat.le_of_ble_eq_true rfl⟩, ?_⟩ | refine ⟨fun _ => Nat.le_of_ble_eq_true rfl, ?_⟩ | refine ⟨fun h => Bool.noConfusion h, ?_⟩)
    conv => whnf
    first | refine rq_dec (⟨rfl, by omega, by rw [rowsI_len]; omega⟩) ?_ | refine gq_dec (fun _ => ⟨rfl, by omega, by rw [rowsI_len]; omega⟩) ?_ | refine ⟨fun _ => ⟨rfl, by omega, by rw [rowsI_len]; omega⟩, ?_⟩
    rw [Int.toNat_natCast, rowsI_get s i h3]
    have hbad := hI.bad h3
    have hnext := hI.next h3
    generalize s[i] = n at hbad hnext
    repeat ((conv => whnf); first | refine Cd.go ?_ | refine ⟨rfl, ?_⟩ | refine rq_dec ⟨.inl rfl, rfl⟩ ?_ | refine rq_dec rfl ?_ | refine ⟨Nat.le_of_ble_eq_true rfl, ?_⟩ | refine ⟨.inl rfl, ?_⟩ | refine ⟨fun _ => ⟨rfl, Nat.le_of_ble_eq_true rfl⟩, ?_⟩ | refine ⟨fun _ => Nat.le_of_ble_eq_true rfl, ?_⟩ | refine ⟨fun h => Bool.noConfusion h, ?_⟩)
    conv => whnf
    refine cq_intro (fun h4 => ?_) (fun h4 => ?_) <;> try simp only [Bool.cond_true_left, Bool.cond_false_right, Bool.not_eq_true', Bool.not_eq_false', Bool.not_not] at h4
    · have h4 : badN f n = true := h4
      rw [hbad h4] at hk
      subst hk
      repeat ((conv => whnf); first | refine Cd.go ?_ | refine ⟨rfl, ?_⟩ | refine rq_dec ⟨.inl rfl, rfl⟩ ?_ | refine rq_dec rfl ?_ | refine ⟨Nat.le_of_ble_eq_true rfl, ?_⟩ | refine ⟨.inl rfl, ?_⟩ | refine ⟨fun _ => ⟨rfl, Nat.le_of_ble_eq_true rfl⟩, ?_⟩ | refine ⟨fun _ => Nat.le_of_ble_eq_true rfl, ?_⟩ | refine ⟨fun h => Bool.noConfusion h, ?_⟩)
      conv => whnf
      refine ⟨[], trivial, rfl, trivial, rfl, ?_⟩
      try subst hk
      repeat' (first | exact trivial | rfl | exact .inl rfl | exact .inr rfl | exact id | exact (fun h => Bool.noConfusion h) | refine And.intro ?_ ?_)
    have h4 : badN f n = false := h4
    obtain ⟨a1, a2, a3, a4⟩ := badN_ok hpos h4
    have hnext := hnext h4
    repeat ((conv => whnf); first | refine Cd.go ?_ | refine ⟨rfl, ?_⟩ | refine rq_dec ⟨.inl rfl, rfl⟩ ?_ | refine rq_dec rfl ?_ | refine ⟨Nat.le_of_ble_eq_true rfl, ?_⟩ | refine ⟨.inl rfl, ?_⟩ | refine ⟨fun _ => ⟨rfl, Nat.le_of_ble_eq_true rfl⟩, ?_⟩ | refine ⟨fun _ => Nat.le_of_ble_eq_true rfl, ?_⟩ | refine ⟨fun h => Bool.noConfusion h, ?_⟩)
    conv => whnf
    try first | refine rq_dec (by decide) ?_ | refine gq_dec (fun _ => by decide) ?_ | refine ⟨fun _ => by decide, ?_⟩
    repeat ((conv => whnf); first | refine Cd.go ?_ | refine ⟨rfl, ?_⟩ | refine rq_dec ⟨.inl rfl, rfl⟩ ?_ | refine rq_dec rfl ?_ | refine ⟨Nat.le_of_ble_eq_true rfl, ?_⟩ | refine ⟨.inl rfl, ?_⟩ | refine ⟨fun _ => ⟨rfl, Nat.le_of_ble_eq_true rfl⟩, ?_⟩ | refine ⟨fun _ => Nat.le_of_ble_eq_true rfl, ?_⟩ | refine ⟨fun h => Bool.noConfusion h, ?_⟩)
    conv => whnf
    try first | refine rq_dec (by decide) ?_ | refine gq_dec (fun _ => by decide) ?_ | refine ⟨fun _ => by decide, ?_⟩
    repeat ((conv => whnf); first | refine Cd.go ?_ | refine ⟨rfl, ?_⟩ | refine rq_dec ⟨.inl rfl, rfl⟩ ?_ | refine rq_dec rfl ?_ | refine ⟨Nat.le_of_ble_eq_true rfl, ?_⟩ | refine ⟨.inl rfl, ?_⟩ | refine ⟨fun _ => ⟨rfl, Nat.le_of_ble_eq_true rfl⟩, ?_⟩ | refine ⟨fun _ => Nat.le_of_ble_eq_true rfl, ?_⟩ | refine ⟨fun h => Bool.noConfusion h, ?_⟩)
    conv => whnf
    try first | refine rq_dec (by decide) ?_ | refine gq_dec (fun _ => by decide) ?_ | refine ⟨fun _ => by decide, ?_⟩
    repeat ((conv => whnf); first | refine Cd.go ?_ | refine ⟨rfl, ?_⟩ | refine rq_dec ⟨.inl rfl, rfl⟩ ?_ | refine rq_dec rfl ?_ | refine ⟨Nat.le_of_ble_eq_true rfl, ?_⟩ | refine ⟨.inl rfl, ?_⟩ | refine ⟨fun _ => ⟨rfl, Nat.le_of_ble_eq_true rfl⟩, ?_⟩ | refine ⟨fun _ => Nat.le_of_ble_eq_true rfl, ?_⟩ | refine ⟨fun h => Bool.noConfusion h, ?_⟩)
    conv => whnf
    refine ⟨Unit, fun _ => True, fun _ => ⟨[(4, ⟨[], true, .sl 0 0 acc.length⟩), (5, ⟨[], true, .int .i64 f⟩), (7, ⟨[], true, .int .i64 n⟩), (8, ⟨[], true, .ptr 1 0 0⟩), (13, ⟨[], true, .lst 1 t (rowsI s)⟩), (14, ⟨[], true, .int .i64 (s.length : Int)⟩), (15, ⟨[], true, .int .i64 (i : Int)⟩)],
      [(0, .row 6 (rowsZ acc)), (1, .box (mkZ f n).c)], 2⟩, ?_, fun _ _ => ?_⟩
    · repeat ((conv => whnf); first | refine Cd.go ?_ | refine ⟨rfl, ?_⟩ | refine rq_dec ⟨.inl rfl, rfl⟩ ?_ | refine rq_dec rfl ?_ | refine ⟨Nat.le_of_ble_eq_true rfl, ?_⟩ | refine ⟨.inl rfl, ?_⟩ | refine ⟨fun _ => ⟨rfl, Nat.le_of_ble_eq_true rfl⟩, ?_⟩ | refine ⟨fun _ => Nat.le_of_ble_eq_true rfl, ?_⟩ | refine ⟨fun h => Bool.noConfusion h, ?_⟩)
      conv => whnf
      refine ⟨Nat × List Int, fun y => (y.1 : Int) ≤ n ∧ y.2 = seqI f (f + y.1), fun y => ⟨[(4, ⟨[], true, .sl 0 0 acc.length⟩), (5, ⟨[], true, .int .i64 f⟩), (7, ⟨[], true, .int .i64 n⟩), (8, ⟨[], true, .ptr 1 0 0⟩), (9, ⟨[], true, .int .i64 (f + (y.1 : Int))⟩), (13, ⟨[], true, .lst 1 t (rowsI s)⟩), (14, ⟨[], true, .int .i64 (s.length : Int)⟩), (15, ⟨[], true, .int .i64 (i : Int)⟩)],
        [(0, .row 6 (rowsZ acc)), (1, .box [.int .i64 f, .int .i64 n, .int .i64 (divW n 8), .int .i64 (divW n 4), .int .i64 (divW n 2), .sl 2 0 y.2.length]), (2, .row 1 (rowsI y.2))], 3⟩, fun y => 100 - y.1, ⟨(0, []), ⟨by simp; omega, by rw [seqI_nil _ _ (by simp)]⟩, ?_⟩, fun y hy => ?_⟩
      · refine viewI [some 0, some 1, none] rfl rfl ?_ rfl ?_ rfl ?_
        repeat' (first | exact trivial | rfl | exact .inl rfl | exact .inr rfl | exact id | exact (fun h => Bool.noConfusion h) | refine And.intro ?_ ?_)
        exact (Int.add_zero _).symm
      obtain ⟨k, out⟩ := y
      obtain ⟨hy1, hy2⟩ := hy
      simp only at hy1 hy2
      have hlen : out.length = k := by rw [hy2, seqI_len]; omega
      have hw1 : IntKind.i64.wrap (f + (k : Int) + 1) = f + ((k + 1 : Nat) : Int) := by rw [wrapI (by omega) (by omega)]; omega
      repeat ((conv => whnf); first | refine Cd.go ?_ | refine ⟨rfl, ?_⟩ | refine rq_dec ⟨.inl rfl, rfl⟩ ?_ | refine rq_dec rfl ?_ | refine ⟨Nat.le_of_ble_eq_true rfl, ?_⟩ | refine ⟨.inl rfl, ?_⟩ | refine ⟨fun _ => ⟨rfl, Nat.le_of_ble_eq_true rfl⟩, ?_⟩ | refine ⟨fun _ => Nat.le_of_ble_eq_true rfl, ?_⟩ | refine ⟨fun h => Bool.noConfusion h, ?_⟩)
      conv => whnf
      rw [a4]
      refine cq_intro (fun h5 => ?_) (fun h5 => ?_) <;> try simp only [Bool.cond_true_left, Bool.cond_false_right, Bool.not_eq_true', Bool.not_eq_false', Bool.not_not] at h5
      · have h5 : (k : Int) < n := by simp at h5; omega
        repeat ((conv => whnf); first | refine Cd.go ?_ | refine ⟨rfl, ?_⟩ | refine rq_dec ⟨.inl rfl, rfl⟩ ?_ | refine rq_dec rfl ?_ | refine ⟨Nat.le_of_ble_eq_true rfl, ?_⟩ | refine ⟨.inl rfl, ?_⟩ | refine ⟨fun _ => ⟨rfl, Nat.le_of_ble_eq_true rfl⟩, ?_⟩ | refine ⟨fun _ => Nat.le_of_ble_eq_true rfl, ?_⟩ | refine ⟨fun h => Bool.noConfusion h, ?_⟩)
        conv => whnf
        refine rq_dec (rowsI_len out).symm ?_
        repeat ((conv => whnf); first | refine Cd.go ?_ | refine ⟨rfl, ?_⟩ | refine rq_dec ⟨.inl rfl, rfl⟩ ?_ | refine rq_dec rfl ?_ | refine ⟨Nat.le_of_ble_eq_true rfl, ?_⟩ | refine ⟨.inl rfl, ?_⟩ | refine ⟨fun _ => ⟨rfl, Nat.le_of_ble_eq_true rfl⟩, ?_⟩ | refine ⟨fun _ => Nat.le_of_ble_eq_true rfl, ?_⟩ | refine ⟨fun h => Bool.noConfusion h, ?_⟩)
        conv => whnf
        refine rq_app ?_ ?_ ?_
        · show (((rowsI out).length + 1 : Nat) : Int) ≤ _
          rw [rowsI_len]; omega
        · show ((rowsI out).length + 1) * 8 ≤ _
          rw [rowsI_len]; omega
        repeat ((conv => whnf); first | refine Cd.go ?_ | refine ⟨rfl, ?_⟩ | refine rq_dec ⟨.inl rfl, rfl⟩ ?_ | refine rq_dec rfl ?_ | refine ⟨Nat.le_of_ble_eq_true rfl, ?_⟩ | refine ⟨.inl rfl, ?_⟩ | refine ⟨fun _ => ⟨rfl, Nat.le_of_ble_eq_true rfl⟩, ?_⟩ | refine ⟨fun _ => Nat.le_of_ble_eq_true rfl, ?_⟩ | refine ⟨fun h => Bool.noConfusion h, ?_⟩)
        conv => whnf
        rw [hw1]
        refine ⟨(k + 1, seqI f (f + ((k + 1 : Nat) : Int))), ⟨by show ((k + 1 : Nat) : Int) ≤ _; omega, rfl⟩, ?_, by show 100 - (k + 1) < 100 - k; omega⟩
        have hs1 : seqI f (f + ((k + 1 : Nat) : Int)) = out ++ [f + (k : Int)] := by
          rw [show f + ((k + 1 : Nat) : Int) = f + (k : Int) + 1 by omega, seqI_succ _ _ (by omega), hy2]
        rw [hs1]
        refine viewI [some 0, some 1, some 4] rfl rfl ?_ rfl ?_ rfl ?_
        repeat' (first | exact trivial | rfl | exact .inl rfl | exact .inr rfl | exact id | exact (fun h => Bool.noConfusion h) | refine And.intro ?_ ?_)
        · show (rowsI out).length + 1 = _
          rw [rowsI_len, List.length_append]; rfl
        · exact rowsI_snoc out _
      have h5 : (k : Int) = n := by simp at h5; omega
      repeat ((conv => whnf); first | refine Cd.go ?_ | refine ⟨rfl, ?_⟩ | refine rq_dec ⟨.inl rfl, rfl⟩ ?_ | refine rq_dec rfl ?_ | refine ⟨Nat.le_of_ble_eq_true rfl, ?_⟩ | refine ⟨.inl rfl, ?_⟩ | refine ⟨fun _ => ⟨rfl, Nat.le_of_ble_eq_true rfl⟩, ?_⟩ | refine ⟨fun _ => Nat.le_of_ble_eq_true rfl, ?_⟩ | refine ⟨fun h => Bool.noConfusion h, ?_⟩)
      conv => whnf
      refine ⟨(), trivial, ?_⟩
      refine viewI [some ?k163_0, some ?k163_1] rfl rfl ?h3_163 ?h4_163 ?h5_163 ?h6_163 ?h7_163
      case' h7_163 => repeat' (first | exact trivial | rfl | exact .inl rfl | exact .inr rfl | exact id | exact (fun h => Bool.noConfusion h) | refine And.intro ?_ ?_)
      case' h4_163 => rfl
      case' h6_163 => rfl
      case' h3_163 => repeat' (first | exact trivial | rfl | exact .inl rfl | exact .inr rfl | exact id | exact (fun h => Bool.noConfusion h) | refine And.intro ?_ ?_)
      case' h5_163 => repeat' (first | exact trivial | rfl | exact .inl rfl | exact .inr rfl | exact id | exact (fun h => Bool.noConfusion h) | refine And.intro ?_ ?_)
      · show 0 + out.length ≤ (rowsI out).length
        rw [rowsI_len]; omega
      · refine (take0 (rowsI_len _)).trans ?_
        show rowsI out = rowsI (seqI f (f + n))
        rw [hy2, h5]
    · repeat ((conv => whnf); first | refine Cd.go ?_ | refine ⟨rfl, ?_⟩ | refine rq_dec ⟨.inl rfl, rfl⟩ ?_ | refine rq_dec rfl ?_ | refine ⟨Nat.le_of_ble_eq_true rfl, ?_⟩ | refine ⟨.inl rfl, ?_⟩ | refine ⟨fun _ => ⟨rfl, Nat.le_of_ble_eq_true rfl⟩, ?_⟩ | refine ⟨fun _ => Nat.le_of_ble_eq_true rfl, ?_⟩ | refine ⟨fun h => Bool.noConfusion h, ?_⟩)
      conv => whnf
      first | refine rq_dec ((rowsZ_len acc).symm) ?_ | skip
      conv => whnf
      refine rq_app ?_ ?_ ?_
      · show (((rowsZ acc).length + 1 : Nat) : Int) ≤ _
        rw [rowsZ_len]; omega
      · show ((rowsZ acc).length + 1) * 64 ≤ _
        rw [rowsZ_len]; omega
      repeat ((conv => whnf); first | refine Cd.go ?_ | refine ⟨rfl, ?_⟩ | refine rq_dec ⟨.inl rfl, rfl⟩ ?_ | refine rq_dec rfl ?_ | refine ⟨Nat.le_of_ble_eq_true rfl, ?_⟩ | refine ⟨.inl rfl, ?_⟩ | refine ⟨fun _ => ⟨rfl, Nat.le_of_ble_eq_true rfl⟩, ?_⟩ | refine ⟨fun _ => Nat.le_of_ble_eq_true rfl, ?_⟩ | refine ⟨fun h => Bool.noConfusion h, ?_⟩)
      conv => whnf
      rw [a4, wrapI (n := (i : Int) + 1) (by omega) (by omega), show ((i : Int) + 1) = ((i + 1 : Nat) : Int) by omega]
      refine ⟨(i + 1, f + n, acc ++ [mkZ f n]), hnext, ?_, by show s.length - (i + 1) < s.length - i; omega⟩
      refine viewI [some ?k187_0] rfl rfl ?h3_187 ?h4_187 ?h5_187 ?h6_187 ?h7_187
      case' h7_187 => repeat' (first | exact trivial | rfl | exact .inl rfl | exact .inr rfl | exact id | exact (fun h => Bool.noConfusion h) | refine And.intro ?_ ?_)
      case' h4_187 => rfl
      case' h6_187 => rfl
      case' h3_187 => repeat' (first | exact trivial | rfl | exact .inl rfl | exact .inr rfl | exact id | exact (fun h => Bool.noConfusion h) | refine And.intro ?_ ?_)
      case' h5_187 => repeat' (first | exact trivial | rfl | exact .inl rfl | exact .inr rfl | exact id | exact (fun h => Bool.noConfusion h) | refine And.intro ?_ ?_)
      · exact rowsZ_snoc acc (mkZ f n)
      · show (rowsZ acc).length + 1 = _
        rw [rowsZ_len, List.length_append]; rfl
  have h3 : i = s.length := by simp at h3; omega
  rw [hI.done h3] at hk
  subst hk
  repeat ((conv => whnf); first | refine Cd.go ?_ | refine ⟨rfl, ?_⟩ | refine rq_dec ⟨.inl rfl, rfl⟩ ?_ | refine rq_dec rfl ?_ | refine ⟨Nat.le_of_ble_eq_true rfl, ?_⟩ | refine ⟨.inl rfl, ?_⟩ | refine ⟨fun _ => ⟨rfl, Nat.le_of_ble_eq_true rfl⟩, ?_⟩ | refine ⟨fun _ => Nat.le_of_ble_eq_true rfl, ?_⟩ | refine ⟨fun h => Bool.noConfusion h, ?_⟩)
  conv => whnf
  refine ⟨[], trivial, rfl, trivial, rfl, ?_⟩
  try subst hk
  repeat' (first | exact trivial | rfl | exact .inl rfl | exact .inr rfl | exact id | exact (fun h => Bool.noConfusion h) | refine And.intro ?_ ?_)
  · show 0 + acc.length ≤ (rowsZ acc).length
    rw [rowsZ_len]; omega
  · exact take0 (rowsZ_len _)
end Go.Proofs.YtmhapcbjjpadnaaGreat

set_option maxRecDepth 40000
namespace Go.Proofs.YtmhapcbjjpadnaaGreat
open Go Go.Sk Go.RowKit

set_option maxRecDepth 20000 in
set_option maxHeartbeats 1000000 in
theorem ok113 (s : List Int) (t : Bool) (hs : s.length ≤ 100000) : FnC Tryz.prog 113 [] [.lst 1 t (rowsI s)] (.tup [.lst 6 false (rowsZ (newF s).1), .int .i64 (newF s).2]) [] := by
  refine fn_okX (ob0 := []) [.p 44] Tryz.func113 rfl rfl rfl rfl ?_
  generalize hk : newF s = q
  repeat ((conv => whnf); first | refine Cd.go ?_ | refine ⟨rfl, ?_⟩ | refine rq_dec ⟨.inl rfl, rfl⟩ ?_ | refine rq_dec rfl ?_ | refine ⟨Nat.le_of_ble_eq_true rfl, ?_⟩ | refine ⟨.inl rfl, ?_⟩ | refine ⟨fun _ => ⟨rfl, Nat.le_of_ble_eq_true rfl⟩, ?_⟩ | refine ⟨fun _ => Nat.le_of_ble_eq_true rfl, ?_⟩ | refine ⟨fun h => Bool.noConfusion h, ?_⟩)
  conv => whnf
  rw [rowsI_len]
  refine cq_intro (fun h1 => ?_) (fun h1 => ?_) <;> try simp only [Bool.cond_true_left, Bool.cond_false_right, Bool.not_eq_true', Bool.not_eq_false', Bool.not_not] at h1
  · simp only [newF, h1, cond_true] at hk
    subst hk
    repeat ((conv => whnf); first | refine Cd.go ?_ | refine ⟨rfl, ?_⟩ | refine rq_dec ⟨.inl rfl, rfl⟩ ?_ | refine rq_dec rfl ?_ | refine ⟨Nat.le_of_ble_eq_true rfl, ?_⟩ | refine ⟨.inl rfl, ?_⟩ | refine ⟨fun _ => ⟨rfl, Nat.le_of_ble_eq_true rfl⟩, ?_⟩ | refine ⟨fun _ => Nat.le_of_ble_eq_true rfl, ?_⟩ | refine ⟨fun h => Bool.noConfusion h, ?_⟩)
    conv => whnf
    refine ⟨[], trivial, rfl, trivial, rfl, ?_⟩
    try subst hk
    repeat' (first | exact trivial | rfl | exact .inl rfl | exact .inr rfl | exact id | exact (fun h => Bool.noConfusion h) | refine And.intro ?_ ?_)
  simp only [newF, h1, cond_false] at hk
  repeat ((conv => whnf); first | refine Cd.go ?_ | refine ⟨rfl, ?_⟩ | refine rq_dec ⟨.inl rfl, rfl⟩ ?_ | refine rq_dec rfl ?_ | refine ⟨Nat.le_of_ble_eq_true rfl, ?_⟩ | refine ⟨.inl rfl, ?_⟩ | refine ⟨fun _ => ⟨rfl, Nat.le_of_ble_eq_true rfl⟩, ?_⟩ | refine ⟨fun _ => Nat.le_of_ble_eq_true rfl, ?_⟩ | refine ⟨fun h => Bool.noConfusion h, ?_⟩)
  conv => whnf
  refine ⟨Nat × Int × List Zn, fun p => NewI s p.1 p.2.1 p.2.2, fun p => ⟨[(4, ⟨[], true, .sl 0 0 p.2.2.length⟩), (5, ⟨[], true, .int .i64 p.2.1⟩), (0, ⟨[], true, .lst 1 t (rowsI s)⟩), (6, ⟨[], true, .int .i64 (p.1 : Int)⟩)], [(0, .row 6 (rowsZ p.2.2))], 1⟩, fun p => s.length - p.1, ⟨(0, 1, []), ⟨by simp, by simp, by decide, by simp⟩, ?_⟩, fun p hI => ?_⟩
  · refine viewI [none] rfl rfl ?_ rfl ?_ rfl ?_
    repeat' (first | exact trivial | rfl | exact .inl rfl | exact .inr rfl | exact id | exact (fun h => Bool.noConfusion h) | refine And.intro ?_ ?_)
  obtain ⟨i, f, acc⟩ := p
  have hI : NewI s i f acc := hI
  have hle := hI.le
  have hpos := hI.pos
  have hal := hI.len
  repeat ((conv => whnf); first | refine Cd.go ?_ | refine ⟨rfl, ?_⟩ | refine rq_dec ⟨.inl rfl, rfl⟩ ?_ | refine rq_dec rfl ?_ | refine ⟨Nat.le_of_ble_eq_true rfl, ?_⟩ | refine ⟨.inl rfl, ?_⟩ | refine ⟨fun _ => ⟨rfl, Nat.le_of_ble_eq_true rfl⟩, ?_⟩ | refine ⟨fun _ => Nat.le_of_ble_eq_true rfl, ?_⟩ | refine ⟨fun h => Bool.noConfusion h, ?_⟩)
  conv => whnf
  rw [rowsI_len]
  refine cq_intro (fun h3 => ?_) (fun h3 => ?_) <;> try simp only [Bool.cond_true_left, Bool.cond_false_right, Bool.not_eq_true', Bool.not_eq_false', Bool.not_not] at h3
  · have h3 : i < s.length := by simp at h3; omega
    repeat ((conv => whnf); first | refine Cd.go ?_ | refine ⟨rfl, ?_⟩ | refine rq_dec ⟨.inl rfl, rfl⟩ ?_ | refine rq_dec rfl ?_ | refine ⟨Nat.le_of_ble_eq_true rfl, ?_⟩ | refine ⟨.inl rfl, ?_⟩ | refine ⟨fun _ => ⟨rfl, Nat.le_of_ble_eq_true rfl⟩, ?_⟩ | refine ⟨fun _ => Nat.le_of_ble_eq_true rfl, ?_⟩ | refine ⟨fun h => Bool.noConfusion h, ?_⟩)
    conv => whnf
    first | refine rq_dec (⟨rfl, by omega, by rw [rowsI_len]; omega⟩) ?_ | refine gq_dec (fun _ => ⟨rfl, by omega, by rw [rowsI_len]; omega⟩) ?_ | refine ⟨fun _ => ⟨rfl, by omega, by rw [rowsI_len]; omega⟩, ?_⟩
    rw [Int.toNat_natCast, rowsI_get s i h3]
    have hbad := hI.bad h3
    have hnext := hI.next h3
    generalize s[i] = n at hbad hnext
    repeat ((conv => whnf); first | refine Cd.go ?_ | refine ⟨rfl, ?_⟩ | refine rq_dec ⟨.inl rfl, rfl⟩ ?_ | refine rq_dec rfl ?_ | refine ⟨Nat.le_of_ble_eq_true rfl, ?_⟩ | refine ⟨.inl rfl, ?_⟩ | refine ⟨fun _ => ⟨rfl, Nat.le_of_ble_eq_true rfl⟩, ?_⟩ | refine ⟨fun _ => Nat.le_of_ble_eq_true rfl, ?_⟩ | refine ⟨fun h => Bool.noConfusion h, ?_⟩)
    conv => whnf
    refine cq_intro (fun h4 => ?_) (fun h4 => ?_) <;> try simp only [Bool.cond_true_left, Bool.cond_false_right, Bool.not_eq_true', Bool.not_eq_false', Bool.not_not] at h4
    · have h4 : badN f n = true := h4
      rw [hbad h4] at hk
      subst hk
      repeat ((conv => whnf); first | refine Cd.go ?_ | refine ⟨rfl, ?_⟩ | refine rq_dec ⟨.inl rfl, rfl⟩ ?_ | refine rq_dec rfl ?_ | refine ⟨Nat.le_of_ble_eq_true rfl, ?_⟩ | refine ⟨.inl rfl, ?_⟩ | refine ⟨fun _ => ⟨rfl, Nat.le_of_ble_eq_true rfl⟩, ?_⟩ | refine ⟨fun _ => Nat.le_of_ble_eq_true rfl, ?_⟩ | refine ⟨fun h => Bool.noConfusion h, ?_⟩)
      conv => whnf
      refine ⟨[], trivial, rfl, trivial, rfl, ?_⟩
      try subst hk
      repeat' (first | exact trivial | rfl | exact .inl rfl | exact .inr rfl | exact id | exact (fun h => Bool.noConfusion h) | refine And.intro ?_ ?_)
    have h4 : badN f n = false := h4
    obtain ⟨a1, a2, a3, a4⟩ := badN_ok hpos h4
    have hnext := hnext h4
    repeat ((conv => whnf); first | refine Cd.go ?_ | refine ⟨rfl, ?_⟩ | refine rq_dec ⟨.inl rfl, rfl⟩ ?_ | refine rq_dec rfl ?_ | refine ⟨Nat.le_of_ble_eq_true rfl, ?_⟩ | refine ⟨.inl rfl, ?_⟩ | refine ⟨fun _ => ⟨rfl, Nat.le_of_ble_eq_true rfl⟩, ?_⟩ | refine ⟨fun _ => Nat.le_of_ble_eq_true rfl, ?_⟩ | refine ⟨fun h => Bool.noConfusion h, ?_⟩)
    conv => whnf
    try first | refine rq_dec (by decide) ?_ | refine gq_dec (fun _ => by decide) ?_ | refine ⟨fun _ => by decide, ?_⟩
    repeat ((conv => whnf); first | refine Cd.go ?_ | refine ⟨rfl, ?_⟩ | refine rq_dec ⟨.inl rfl, rfl⟩ ?_ | refine rq_dec rfl ?_ | refine ⟨Nat.le_of_ble_eq_true rfl, ?_⟩ | refine ⟨.inl rfl, ?_⟩ | refine ⟨fun _ => ⟨rfl, Nat.le_of_ble_eq_true rfl⟩, ?_⟩ | refine ⟨fun _ => Nat.le_of_ble_eq_true rfl, ?_⟩ | refine ⟨fun h => Bool.noConfusion h, ?_⟩)
    conv => whnf
    try first | refine rq_dec (by decide) ?_ | refine gq_dec (fun _ => by decide) ?_ | refine ⟨fun _ => by decide, ?_⟩
    repeat ((conv => whnf); first | refine Cd.go ?_ | refine ⟨rfl, ?_⟩ | refine rq_dec ⟨.inl rfl, rfl⟩ ?_ | refine rq_dec rfl ?_ | refine ⟨Nat.le_of_ble_eq_true rfl, ?_⟩ | refine ⟨.inl rfl, ?_⟩ | refine ⟨fun _ => ⟨rfl, Nat.le_of_ble_eq_true rfl⟩, ?_⟩ | refine ⟨fun _ => Nat.le_of_ble_eq_true rfl, ?_⟩ | refine ⟨fun h => Bool.noConfusion h, ?_⟩)
    conv => whnf
    try first | refine rq_dec (by decide) ?_ | refine gq_dec (fun _ => by decide) ?_ | refine ⟨fun _ => by decide, ?_⟩
    repeat ((conv => whnf); first | refine Cd.go ?_ | refine ⟨rfl, ?_⟩ | refine rq_dec ⟨.inl rfl, rfl⟩ ?_ | refine rq_dec rfl ?_ | refine ⟨Nat.le_of_ble_eq_true rfl, ?_⟩ | refine ⟨.inl rfl, ?_⟩ | refine ⟨fun _ => ⟨rfl, Nat.le_of_ble_eq_true rfl⟩, ?_⟩ | refine ⟨fun _ => Nat.le_of_ble_eq_true rfl, ?_⟩ | refine ⟨fun h => Bool.noConfusion h, ?_⟩)
    conv => whnf
    refine ⟨Unit, fun _ => True, fun _ => ⟨[(4, ⟨[], true, .sl 0 0 acc.length⟩), (5, ⟨[], true, .int .i64 f⟩), (7, ⟨[], true, .int .i64 n⟩), (8, ⟨[], true, .ptr 1 0 0⟩), (0, ⟨[], true, .lst 1 t (rowsI s)⟩), (6, ⟨[], true, .int .i64 (i : Int)⟩)],
      [(0, .row 6 (rowsZ acc)), (1, .box (mkZ f n).c)], 2⟩, ?_, fun _ _ => ?_⟩
    · repeat ((conv => whnf); first | refine Cd.go ?_ | refine ⟨rfl, ?_⟩ | refine rq_dec ⟨.inl rfl, rfl⟩ ?_ | refine rq_dec rfl ?_ | refine ⟨Nat.le_of_ble_eq_true rfl, ?_⟩ | refine ⟨.inl rfl, ?_⟩ | refine ⟨fun _ => ⟨rfl, Nat.le_of_ble_eq_true rfl⟩, ?_⟩ | refine ⟨fun _ => Nat.le_of_ble_eq_true rfl, ?_⟩ | refine ⟨fun h => Bool.noConfusion h, ?_⟩)
      conv => whnf
      refine ⟨Nat × List Int, fun y => (y.1 : Int) ≤ n ∧ y.2 = seqI f (f + y.1), fun y => ⟨[(4, ⟨[], true, .sl 0 0 acc.length⟩), (5, ⟨[], true, .int .i64 f⟩), (7, ⟨[], true, .int .i64 n⟩), (8, ⟨[], true, .ptr 1 0 0⟩), (9, ⟨[], true, .int .i64 (f + (y.1 : Int))⟩), (0, ⟨[], true, .lst 1 t (rowsI s)⟩), (6, ⟨[], true, .int .i64 (i : Int)⟩)],
        [(0, .row 6 (rowsZ acc)), (1, .box [.int .i64 f, .int .i64 n, .int .i64 (divW n 8), .int .i64 (divW n 4), .int .i64 (divW n 2), .sl 2 0 y.2.length]), (2, .row 1 (rowsI y.2))], 3⟩, fun y => 100 - y.1, ⟨(0, []), ⟨by simp; omega, by rw [seqI_nil _ _ (by simp)]⟩, ?_⟩, fun y hy => ?_⟩
      · refine viewI [some 0, some 1, none] rfl rfl ?_ rfl ?_ rfl ?_
        repeat' (first | exact trivial | rfl | exact .inl rfl | exact .inr rfl | exact id | exact (fun h => Bool.noConfusion h) | refine And.intro ?_ ?_)
        exact (Int.add_zero _).symm
      obtain ⟨k, out⟩ := y
      obtain ⟨hy1, hy2⟩ := hy
      simp only at hy1 hy2
      have hlen : out.length = k := by rw [hy2, seqI_len]; omega
      have hw1 : IntKind.i64.wrap (f + (k : Int) + 1) = f + ((k + 1 : Nat) : Int) := by rw [wrapI (by omega) (by omega)]; omega
      repeat ((conv => whnf); first | refine Cd.go ?_ | refine ⟨rfl, ?_⟩ | refine rq_dec ⟨.inl rfl, rfl⟩ ?_ | refine rq_dec rfl ?_ | refine ⟨Nat.le_of_ble_eq_true rfl, ?_⟩ | refine ⟨.inl rfl, ?_⟩ | refine ⟨fun _ => ⟨rfl, Nat.le_of_ble_eq_true rfl⟩, ?_⟩ | refine ⟨fun _ => Nat.le_of_ble_eq_true rfl, ?_⟩ | refine ⟨fun h => Bool.noConfusion h, ?_⟩)
      conv => whnf
      rw [a4]
      refine cq_intro (fun h5 => ?_) (fun h5 => ?_) <;> try simp only [Bool.cond_true_left, Bool.cond_false_right, Bool.not_eq_true', Bool.not_eq_false', Bool.not_not] at h5
      · have h5 : (k : Int) < n := by simp at h5; omega
        repeat ((conv => whnf); first | refine Cd.go ?_ | refine ⟨rfl, ?_⟩ | refine rq_dec ⟨.inl rfl, rfl⟩ ?_ | refine rq_dec rfl ?_ | refine ⟨Nat.le_of_ble_eq_true rfl, ?_⟩ | refine ⟨.inl rfl, ?_⟩ | refine ⟨fun _ => ⟨rfl, Nat.le_of_ble_eq_true rfl⟩, ?_⟩ | refine ⟨fun _ => Nat.le_of_ble_eq_true rfl, ?_⟩ | refine ⟨fun h => Bool.noConfusion h, ?_⟩)
        conv => whnf
        first | refine rq_dec ((rowsI_len out).symm) ?_ | skip
        conv => whnf
        refine rq_app ?_ ?_ ?_
        · show (((rowsI out).length + 1 : Nat) : Int) ≤ _
          rw [rowsI_len]; omega
        · show ((rowsI out).length + 1) * 8 ≤ _
          rw [rowsI_len]; omega
        repeat ((conv => whnf); first | refine Cd.go ?_ | refine ⟨rfl, ?_⟩ | refine rq_dec ⟨.inl rfl, rfl⟩ ?_ | refine rq_dec rfl ?_ | refine ⟨Nat.le_of_ble_eq_true rfl, ?_⟩ | refine ⟨.inl rfl, ?_⟩ | refine ⟨fun _ => ⟨rfl, Nat.le_of_ble_eq_true rfl⟩, ?_⟩ | refine ⟨fun _ => Nat.le_of_ble_eq_true rfl, ?_⟩ | refine ⟨fun h => Bool.noConfusion h, ?_⟩)
        conv => whnf
        rw [hw1]
        refine ⟨(k + 1, seqI f (f + ((k + 1 : Nat) : Int))), ⟨by show ((k + 1 : Nat) : Int) ≤ _; omega, rfl⟩, ?_, by show 100 - (k + 1) < 100 - k; omega⟩
        have hs1 : seqI f (f + ((k + 1 : Nat) : Int)) = out ++ [f + (k : Int)] := by
          rw [show f + ((k + 1 : Nat) : Int) = f + (k : Int) + 1 by omega, seqI_succ _ _ (by omega), hy2]
        rw [hs1]
        refine viewI [some 0, some 1, some 4] rfl rfl ?_ rfl ?_ rfl ?_
        repeat' (first | exact trivial | rfl | exact .inl rfl | exact .inr rfl | exact id | exact (fun h => Bool.noConfusion h) | refine And.intro ?_ ?_)
        · show (rowsI out).length + 1 = _
          rw [rowsI_len, List.length_append]; rfl
        · exact rowsI_snoc out _
      have h5 : (k : Int) = n := by simp at h5; omega
      repeat ((conv => whnf); first | refine Cd.go ?_ | refine ⟨rfl, ?_⟩ | refine rq_dec ⟨.inl rfl, rfl⟩ ?_ | refine rq_dec rfl ?_ | refine ⟨Nat.le_of_ble_eq_true rfl, ?_⟩ | refine ⟨.inl rfl, ?_⟩ | refine ⟨fun _ => ⟨rfl, Nat.le_of_ble_eq_true rfl⟩, ?_⟩ | refine ⟨fun _ => Nat.le_of_ble_eq_true rfl, ?_⟩ | refine ⟨fun h => Bool.noConfusion h, ?_⟩)
      conv => whnf
      refine ⟨(), trivial, ?_⟩
      refine viewI [some ?k113_0, some ?k113_1] rfl rfl ?h3_113 ?h4_113 ?h5_113 ?h6_113 ?h7_113
      case' h7_113 => repeat' (first | exact trivial | rfl | exact .inl rfl | exact .inr rfl | exact id | exact (fun h => Bool.noConfusion h) | refine And.intro ?_ ?_)
      case' h4_113 => rfl
      case' h6_113 => rfl
      case' h3_113 => repeat' (first | exact trivial | rfl | exact .inl rfl | exact .inr rfl | exact id | exact (fun h => Bool.noConfusion h) | refine And.intro ?_ ?_)
      case' h5_113 => repeat' (first | exact trivial | rfl | exact .inl rfl | exact .inr rfl | exact id | exact (fun h => Bool.noConfusion h) | refine And.intro ?_ ?_)
      · show 0 + out.length ≤ (rowsI out).length
        rw [rowsI_len]; omega
      · refine (take0 (rowsI_len _)).trans ?_
        show rowsI out = rowsI (seqI f (f + n))
        rw [hy2, h5]
    · repeat ((conv => whnf); first | refine Cd.go ?_ | refine ⟨rfl, ?_⟩ | refine rq_dec ⟨.inl rfl, rfl⟩ ?_ | refine rq_dec rfl ?_ | refine ⟨Nat.le_of_ble_eq_true rfl, ?_⟩ | refine ⟨.inl rfl, ?_⟩ | refine ⟨fun _ => ⟨rfl, Nat.le_of_ble_eq_true rfl⟩, ?_⟩ | refine ⟨fun _ => Nat.le_of_ble_eq_true rfl, ?_⟩ | refine ⟨fun h => Bool.noConfusion h, ?_⟩)
      conv => whnf
      first | refine rq_dec ((rowsZ_len acc).symm) ?_ | skip
      conv => whnf
      refine rq_app ?_ ?_ ?_
      · show (((rowsZ acc).length + 1 : Nat) : Int) ≤ _
        rw [rowsZ_len]; omega
      · show ((rowsZ acc).length + 1) * 64 ≤ _
        rw [rowsZ_len]; omega
      repeat ((conv => whnf); first | refine Cd.go ?_ | refine ⟨rfl, ?_⟩ | refine rq_dec ⟨.inl rfl, rfl⟩ ?_ | refine rq_dec rfl ?_ | refine ⟨Nat.le_of_ble_eq_true rfl, ?_⟩ | refine ⟨.inl rfl, ?_⟩ | refine ⟨fun _ => ⟨rfl, Nat.le_of_ble_eq_true rfl⟩, ?_⟩ | refine ⟨fun _ => Nat.le_of_ble_eq_true rfl, ?_⟩ | refine ⟨fun h => Bool.noConfusion h, ?_⟩)
      conv => whnf
      rw [a4, wrapI (n := (i : Int) + 1) (by omega) (by omega), show ((i : Int) + 1) = ((i + 1 : Nat) : Int) by omega]
      refine ⟨(i + 1, f + n, acc ++ [mkZ f n]), hnext, ?_, by show s.length - (i + 1) < s.length - i; omega⟩
      refine viewI [some ?k137_0] rfl rfl ?h3_137 ?h4_137 ?h5_137 ?h6_137 ?h7_137
      case' h7_137 => repeat' (first | exact trivial | rfl | exact .inl rfl | exact .inr rfl | exact id | exact (fun h => Bool.noConfusion h) | refine And.intro ?_ ?_)
      case' h4_137 => rfl
      case' h6_137 => rfl
      case' h3_137 => repeat' (first | exact trivial | rfl | exact .inl rfl | exact .inr rfl | exact id | exact (fun h => Bool.noConfusion h) | refine And.intro ?_ ?_)
      case' h5_137 => repeat' (first | exact trivial | rfl | exact .inl rfl | exact .inr rfl | exact id | exact (fun h => Bool.noConfusion h) | refine And.intro ?_ ?_)
      · exact rowsZ_snoc acc (mkZ f n)
      · show (rowsZ acc).length + 1 = _
        rw [rowsZ_len, List.length_append]; rfl
  have h3 : i = s.length := by simp at h3; omega
  rw [hI.done h3] at hk
  subst hk
  repeat ((conv => whnf); first | refine Cd.go ?_ | refine ⟨rfl, ?_⟩ | refine rq_dec ⟨.inl rfl, rfl⟩ ?_ | refine rq_dec rfl ?_ | refine ⟨Nat.le_of_ble_eq_true rfl, ?_⟩ | refine ⟨.inl rfl, ?_⟩ | refine ⟨fun _ => ⟨rfl, Nat.le_of_ble_eq_true rfl⟩, ?_⟩ | refine ⟨fun _ => Nat.le_of_ble_eq_true rfl, ?_⟩ | refine ⟨fun h => Bool.noConfusion h, ?_⟩)
  conv => whnf
  refine ⟨[], trivial, rfl, trivial, rfl, ?_⟩
  try subst hk
  repeat' (first | exact trivial | rfl | exact .inl rfl | exact .inr rfl | exact id | exact (fun h => Bool.noConfusion h) | refine And.intro ?_ ?_)
  · show 0 + acc.length ≤ (rowsZ acc).length
    rw [rowsZ_len]; omega
  · exact take0 (rowsZ_len _)
end Go.Proofs.YtmhapcbjjpadnaaGreat

