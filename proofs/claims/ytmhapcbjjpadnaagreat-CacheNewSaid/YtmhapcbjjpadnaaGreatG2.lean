/- Caches. -/
import Derived.Test.YtmhapcbjjpadnaaGreatG1
set_option linter.unusedSimpArgs false
set_option linter.unusedVariables false
set_option maxRecDepth 40000
namespace Go.Proofs.YtmhapcbjjpadnaaGreat
open Go Go.Sk Go.RowKit

def chkF : Int → List Zn → Bool
  | _, [] => true
  | f, z :: r => rightZ z f && chkF (endZ z) r
def checkZ (l : List Zn) : Bool := chkF 1 l && decide (0 < (l.length : Int))
structure SmallZ (l : List Zn) : Prop where
  len : l.length ≤ 100000
  free : ∀ z ∈ l, z.free.length ≤ 100000
theorem SmallZ.at {l : List Zn} (h : SmallZ l) {i : Nat} (hi : i < l.length) : (l[i].free.length : Int) < 2 ^ 62 := by
  have := h.free _ (List.getElem_mem hi); omega
set_option maxRecDepth 20000 in
theorem ok211 (l : List Zn) (t : Bool) (hl : SmallZ l) : FnC Tryz.prog 211 [] [.lst 6 t (rowsZ l)] (.bool (checkZ l)) [] := by
  have hlen := hl.len
  refine fn_okX (ob0 := []) [] Tryz.func211 rfl rfl rfl rfl ?_
  generalize hk : checkZ l = q
  repeat ((conv => whnf); first | refine Cd.go ?_ | refine ⟨rfl, ?_⟩ | refine rq_dec ⟨.inl rfl, rfl⟩ ?_ | refine rq_dec rfl ?_ | refine ⟨Nat.le_of_ble_eq_true rfl, ?_⟩ | refine ⟨.inl rfl, ?_⟩ | refine ⟨fun _ => ⟨rfl, Nat.le_of_ble_eq_true rfl⟩, ?_⟩ | refine ⟨fun _ => Nat.le_of_ble_eq_true rfl, ?_⟩ | refine ⟨fun h => Bool.noConfusion h, ?_⟩)
  conv => whnf
  rw [rowsZ_len]
  refine ⟨Nat × Int, fun p => p.1 ≤ l.length ∧ chkF 1 l = chkF p.2 (l.drop p.1), fun p => ⟨[(0, ⟨[], true, .lst 6 t (rowsZ l)⟩), (2, ⟨[], true, .bool false⟩), (3, ⟨[], true, .int .i64 p.2⟩), (6, ⟨[], true, .lst 6 t (rowsZ l)⟩), (7, ⟨[], true, .int .i64 (l.length : Int)⟩), (8, ⟨[], true, .int .i64 (p.1 : Int)⟩)], [], 0⟩, fun p => l.length - p.1, ⟨(0, 1), ⟨by simp, rfl⟩, ?_⟩, fun p hI => ?_⟩
  · refine viewI [] rfl rfl ?_ rfl ?_ rfl ?_
    repeat' (first | exact trivial | rfl | exact .inl rfl | exact .inr rfl | exact id | exact (fun h => Bool.noConfusion h) | refine And.intro ?_ ?_)
  obtain ⟨i, f⟩ := p
  obtain ⟨hI1, hI2⟩ := hI
  simp only at hI1 hI2
  repeat ((conv => whnf); first | refine Cd.go ?_ | refine ⟨rfl, ?_⟩ | refine rq_dec ⟨.inl rfl, rfl⟩ ?_ | refine rq_dec rfl ?_ | refine ⟨Nat.le_of_ble_eq_true rfl, ?_⟩ | refine ⟨.inl rfl, ?_⟩ | refine ⟨fun _ => ⟨rfl, Nat.le_of_ble_eq_true rfl⟩, ?_⟩ | refine ⟨fun _ => Nat.le_of_ble_eq_true rfl, ?_⟩ | refine ⟨fun h => Bool.noConfusion h, ?_⟩)
  conv => whnf
  refine cq_intro (fun h3 => ?_) (fun h3 => ?_) <;> try simp only [Bool.cond_true_left, Bool.cond_false_right, Bool.not_eq_true', Bool.not_eq_false', Bool.not_not] at h3
  · have h3 : i < l.length := by simp at h3; omega
    rw [List.drop_eq_getElem_cons h3, chkF] at hI2
    have hf := hl.at h3
    repeat ((conv => whnf); first | refine Cd.go ?_ | refine ⟨rfl, ?_⟩ | refine rq_dec ⟨.inl rfl, rfl⟩ ?_ | refine rq_dec rfl ?_ | refine ⟨Nat.le_of_ble_eq_true rfl, ?_⟩ | refine ⟨.inl rfl, ?_⟩ | refine ⟨fun _ => ⟨rfl, Nat.le_of_ble_eq_true rfl⟩, ?_⟩ | refine ⟨fun _ => Nat.le_of_ble_eq_true rfl, ?_⟩ | refine ⟨fun h => Bool.noConfusion h, ?_⟩)
    conv => whnf
    first | refine rq_dec (⟨rfl, by omega, by rw [rowsZ_len]; omega⟩) ?_ | refine gq_dec (fun _ => ⟨rfl, by omega, by rw [rowsZ_len]; omega⟩) ?_ | refine ⟨fun _ => ⟨rfl, by omega, by rw [rowsZ_len]; omega⟩, ?_⟩
    rw [Int.toNat_natCast, rowsZ_get l i h3]
    generalize l[i] = z at hI2 hf
    repeat ((conv => whnf); first | refine Cd.go ?_ | refine ⟨rfl, ?_⟩ | refine rq_dec ⟨.inl rfl, rfl⟩ ?_ | refine rq_dec rfl ?_ | refine ⟨Nat.le_of_ble_eq_true rfl, ?_⟩ | refine ⟨.inl rfl, ?_⟩ | refine ⟨fun _ => ⟨rfl, Nat.le_of_ble_eq_true rfl⟩, ?_⟩ | refine ⟨fun _ => Nat.le_of_ble_eq_true rfl, ?_⟩ | refine ⟨fun h => Bool.noConfusion h, ?_⟩ | refine .inl ⟨_, fun _ => ⟨purA rfl, (by first | exact ok291 z f hf)⟩, .inl rfl, ?_⟩)
    conv => whnf
    refine cq_intro (fun h4 => ?_) (fun h4 => ?_) <;> try simp only [Bool.cond_true_left, Bool.cond_false_right, Bool.not_eq_true', Bool.not_eq_false', Bool.not_not] at h4
    · have h4 : rightZ z f = false := by simpa using h4
      rw [checkZ, hI2, h4] at hk
      have hk : q = false := by rw [← hk]; rfl
      subst hk
      repeat ((conv => whnf); first | refine Cd.go ?_ | refine ⟨rfl, ?_⟩ | refine rq_dec ⟨.inl rfl, rfl⟩ ?_ | refine rq_dec rfl ?_ | refine ⟨Nat.le_of_ble_eq_true rfl, ?_⟩ | refine ⟨.inl rfl, ?_⟩ | refine ⟨fun _ => ⟨rfl, Nat.le_of_ble_eq_true rfl⟩, ?_⟩ | refine ⟨fun _ => Nat.le_of_ble_eq_true rfl, ?_⟩ | refine ⟨fun h => Bool.noConfusion h, ?_⟩)
      conv => whnf
      refine ⟨[], trivial, rfl, trivial, rfl, ?_⟩
      try subst hk
      repeat' (first | exact trivial | rfl | exact .inl rfl | exact .inr rfl | exact id | exact (fun h => Bool.noConfusion h) | refine And.intro ?_ ?_)
    have h4 : rightZ z f = true := by simpa using h4
    rw [h4, Bool.true_and] at hI2
    repeat ((conv => whnf); first | refine Cd.go ?_ | refine ⟨rfl, ?_⟩ | refine rq_dec ⟨.inl rfl, rfl⟩ ?_ | refine rq_dec rfl ?_ | refine ⟨Nat.le_of_ble_eq_true rfl, ?_⟩ | refine ⟨.inl rfl, ?_⟩ | refine ⟨fun _ => ⟨rfl, Nat.le_of_ble_eq_true rfl⟩, ?_⟩ | refine ⟨fun _ => Nat.le_of_ble_eq_true rfl, ?_⟩ | refine ⟨fun h => Bool.noConfusion h, ?_⟩ | refine .inl ⟨_, fun _ => ⟨purA rfl, (by first | exact ok292 z)⟩, .inl rfl, ?_⟩)
    conv => whnf
    rw [wrapI (n := (i : Int) + 1) (by omega) (by omega), show ((i : Int) + 1) = ((i + 1 : Nat) : Int) by omega]
    refine ⟨(i + 1, endZ z), ⟨by show i + 1 ≤ _; omega, hI2⟩, ?_, by show l.length - (i + 1) < l.length - i; omega⟩
    refine viewI [] rfl rfl ?_ rfl ?_ rfl ?_
    repeat' (first | exact trivial | rfl | exact .inl rfl | exact .inr rfl | exact id | exact (fun h => Bool.noConfusion h) | refine And.intro ?_ ?_)
  have h3 : i = l.length := by simp at h3; omega
  rw [h3, List.drop_length, chkF] at hI2
  rw [checkZ, hI2, Bool.true_and] at hk
  repeat ((conv => whnf); first | refine Cd.go ?_ | refine ⟨rfl, ?_⟩ | refine rq_dec ⟨.inl rfl, rfl⟩ ?_ | refine rq_dec rfl ?_ | refine ⟨Nat.le_of_ble_eq_true rfl, ?_⟩ | refine ⟨.inl rfl, ?_⟩ | refine ⟨fun _ => ⟨rfl, Nat.le_of_ble_eq_true rfl⟩, ?_⟩ | refine ⟨fun _ => Nat.le_of_ble_eq_true rfl, ?_⟩ | refine ⟨fun h => Bool.noConfusion h, ?_⟩)
  conv => whnf
  rw [rowsZ_len]
  subst hk
  repeat ((conv => whnf); first | refine Cd.go ?_ | refine ⟨rfl, ?_⟩ | refine rq_dec ⟨.inl rfl, rfl⟩ ?_ | refine rq_dec rfl ?_ | refine ⟨Nat.le_of_ble_eq_true rfl, ?_⟩ | refine ⟨.inl rfl, ?_⟩ | refine ⟨fun _ => ⟨rfl, Nat.le_of_ble_eq_true rfl⟩, ?_⟩ | refine ⟨fun _ => Nat.le_of_ble_eq_true rfl, ?_⟩ | refine ⟨fun h => Bool.noConfusion h, ?_⟩)
  conv => whnf
  refine ⟨[], trivial, rfl, trivial, rfl, ?_⟩
  try subst hk
  repeat' (first | exact trivial | rfl | exact .inl rfl | exact .inr rfl | exact id | exact (fun h => Bool.noConfusion h) | refine And.intro ?_ ?_)
def headBadR (z : Zn) (f : Int) : Bool := (z.first != f || decide (z.size < 1)) || decide (IntKind.i64.wrap (65 - f) < z.size)
def badR (z : Zn) (f : Int) : Bool := ((((headBadR z f || decide (z.min < 0)) || decide (z.low < z.min)) || decide (z.high < z.low)) || decide (z.size < z.high))
theorem badR_eq (z : Zn) (f : Int) (hf : 1 ≤ f ∧ f ≤ 65) (h : badR z f = false) : headBad z f = false ∧ markBad z = false ∧ endZ z = f + z.size ∧ 1 ≤ endZ z ∧ endZ z ≤ 65 := by
  simp only [badR, headBadR, Bool.or_eq_false_iff, decide_eq_false_iff_not, bne_eq_false_iff_eq] at h
  rw [wrapI (by omega) (by omega)] at h
  have he : endZ z = f + z.size := by rw [endZ, wrapI (by omega) (by omega)]; omega
  refine ⟨?_, ?_, he, by omega, by omega⟩
  · simp only [headBad, Bool.or_eq_false_iff, decide_eq_false_iff_not, bne_eq_false_iff_eq]; omega
  · simp only [markBad, Bool.or_eq_false_iff, decide_eq_false_iff_not]; omega
theorem badR_right (z : Zn) (f : Int) (hf : 1 ≤ f ∧ f ≤ 65) (h : badR z f = true) : rightZ z f = false := by
  rw [rightZ]
  by_cases h1 : headBad z f = true
  · rw [h1]; rfl
  · have h1 : headBad z f = false := by simpa using h1
    have h2 : markBad z = true := by
      simp only [badR, headBadR, Bool.or_eq_true, decide_eq_true_eq, bne_iff_ne] at h
      rw [wrapI (by omega) (by omega)] at h
      simp only [headBad, Bool.or_eq_false_iff, decide_eq_false_iff_not, bne_eq_false_iff_eq] at h1
      have he : endZ z = f + z.size := by rw [endZ, wrapI (by omega) (by omega)]; omega
      simp only [markBad, Bool.or_eq_true, decide_eq_true_eq]
      omega
    rw [h1, h2]; rfl
set_option maxRecDepth 20000 in
set_option maxHeartbeats 8000000 in
theorem ok212 (l : List Zn) (t : Bool) (hl : SmallZ l) : FnC Tryz.prog 212 [] [.lst 6 t (rowsZ l)] (.bool (checkZ l)) [] := by
  have hlen := hl.len
  refine fn_okX (ob0 := []) [] Tryz.func212 rfl rfl rfl rfl ?_
  generalize hk : checkZ l = q
  repeat ((conv => whnf); first | refine Cd.go ?_ | refine ⟨rfl, ?_⟩ | refine rq_dec ⟨.inl rfl, rfl⟩ ?_ | refine rq_dec rfl ?_ | refine ⟨Nat.le_of_ble_eq_true rfl, ?_⟩ | refine ⟨.inl rfl, ?_⟩ | refine ⟨fun _ => ⟨rfl, Nat.le_of_ble_eq_true rfl⟩, ?_⟩ | refine ⟨fun _ => Nat.le_of_ble_eq_true rfl, ?_⟩ | refine ⟨fun h => Bool.noConfusion h, ?_⟩)
  conv => whnf
  refine ⟨Nat × Int, fun p => p.1 ≤ l.length ∧ (1 ≤ p.2 ∧ p.2 ≤ 65) ∧ chkF 1 l = chkF p.2 (l.drop p.1), fun p => ⟨[(0, ⟨[], true, .lst 6 t (rowsZ l)⟩), (2, ⟨[], true, .bool false⟩), (3, ⟨[], true, .int .i64 p.2⟩), (4, ⟨[], true, .int .i64 (p.1 : Int)⟩)], [], 0⟩, fun p => l.length - p.1, ⟨(0, 1), ⟨by simp, by decide, rfl⟩, ?_⟩, fun p hI => ?_⟩
  · refine viewI [] rfl rfl ?_ rfl ?_ rfl ?_
    repeat' (first | exact trivial | rfl | exact .inl rfl | exact .inr rfl | exact id | exact (fun h => Bool.noConfusion h) | refine And.intro ?_ ?_)
  obtain ⟨i, f⟩ := p
  obtain ⟨hI1, hI3, hI2⟩ := hI
  simp only at hI1 hI2 hI3
  repeat ((conv => whnf); first | refine Cd.go ?_ | refine ⟨rfl, ?_⟩ | refine rq_dec ⟨.inl rfl, rfl⟩ ?_ | refine rq_dec rfl ?_ | refine ⟨Nat.le_of_ble_eq_true rfl, ?_⟩ | refine ⟨.inl rfl, ?_⟩ | refine ⟨fun _ => ⟨rfl, Nat.le_of_ble_eq_true rfl⟩, ?_⟩ | refine ⟨fun _ => Nat.le_of_ble_eq_true rfl, ?_⟩ | refine ⟨fun h => Bool.noConfusion h, ?_⟩)
  conv => whnf
  rw [rowsZ_len]
  refine cq_intro (fun h3 => ?_) (fun h3 => ?_) <;> try simp only [Bool.cond_true_left, Bool.cond_false_right, Bool.not_eq_true', Bool.not_eq_false', Bool.not_not] at h3
  · have h3 : i < l.length := by simp at h3; omega
    rw [List.drop_eq_getElem_cons h3, chkF] at hI2
    have hf := hl.at h3
    repeat ((conv => whnf); first | refine Cd.go ?_ | refine ⟨rfl, ?_⟩ | refine rq_dec ⟨.inl rfl, rfl⟩ ?_ | refine rq_dec rfl ?_ | refine ⟨Nat.le_of_ble_eq_true rfl, ?_⟩ | refine ⟨.inl rfl, ?_⟩ | refine ⟨fun _ => ⟨rfl, Nat.le_of_ble_eq_true rfl⟩, ?_⟩ | refine ⟨fun _ => Nat.le_of_ble_eq_true rfl, ?_⟩ | refine ⟨fun h => Bool.noConfusion h, ?_⟩)
    conv => whnf
    first | refine rq_dec (⟨rfl, by omega, by rw [rowsZ_len]; omega⟩) ?_ | refine gq_dec (fun _ => ⟨rfl, by omega, by rw [rowsZ_len]; omega⟩) ?_ | refine ⟨fun _ => ⟨rfl, by omega, by rw [rowsZ_len]; omega⟩, ?_⟩
    rw [Int.toNat_natCast, rowsZ_get l i h3]
    generalize l[i] = z at hI2 hf
    repeat ((conv => whnf); first | refine Cd.go ?_ | refine ⟨rfl, ?_⟩ | refine rq_dec ⟨.inl rfl, rfl⟩ ?_ | refine rq_dec rfl ?_ | refine ⟨Nat.le_of_ble_eq_true rfl, ?_⟩ | refine ⟨.inl rfl, ?_⟩ | refine ⟨fun _ => ⟨rfl, Nat.le_of_ble_eq_true rfl⟩, ?_⟩ | refine ⟨fun _ => Nat.le_of_ble_eq_true rfl, ?_⟩ | refine ⟨fun h => Bool.noConfusion h, ?_⟩)
    conv => whnf
    refine cq_intro (fun h4 => ?_) (fun h4 => ?_) <;> try simp only [Bool.cond_true_left, Bool.cond_false_right, Bool.not_eq_true', Bool.not_eq_false', Bool.not_not] at h4
    · have h4 : badR z f = true := h4
      rw [checkZ, hI2, badR_right z f hI3 h4] at hk
      have hk : q = false := by rw [← hk]; rfl
      subst hk
      repeat ((conv => whnf); first | refine Cd.go ?_ | refine ⟨rfl, ?_⟩ | refine rq_dec ⟨.inl rfl, rfl⟩ ?_ | refine rq_dec rfl ?_ | refine ⟨Nat.le_of_ble_eq_true rfl, ?_⟩ | refine ⟨.inl rfl, ?_⟩ | refine ⟨fun _ => ⟨rfl, Nat.le_of_ble_eq_true rfl⟩, ?_⟩ | refine ⟨fun _ => Nat.le_of_ble_eq_true rfl, ?_⟩ | refine ⟨fun h => Bool.noConfusion h, ?_⟩)
      conv => whnf
      refine ⟨[], trivial, rfl, trivial, rfl, ?_⟩
      try subst hk
      repeat' (first | exact trivial | rfl | exact .inl rfl | exact .inr rfl | exact id | exact (fun h => Bool.noConfusion h) | refine And.intro ?_ ?_)
    have h4 : badR z f = false := h4
    obtain ⟨e1, e2, e3, e4⟩ := badR_eq z f hI3 h4
    have e5 : rightZ z f = ascN z.first (endZ z) z.free z.free.length := by rw [rightZ, e1, e2]; rfl
    repeat ((conv => whnf); first | refine Cd.go ?_ | refine ⟨rfl, ?_⟩ | refine rq_dec ⟨.inl rfl, rfl⟩ ?_ | refine rq_dec rfl ?_ | refine ⟨Nat.le_of_ble_eq_true rfl, ?_⟩ | refine ⟨.inl rfl, ?_⟩ | refine ⟨fun _ => ⟨rfl, Nat.le_of_ble_eq_true rfl⟩, ?_⟩ | refine ⟨fun _ => Nat.le_of_ble_eq_true rfl, ?_⟩ | refine ⟨fun h => Bool.noConfusion h, ?_⟩)
    conv => whnf
    refine ⟨Nat, fun k => k ≤ z.free.length ∧ ascN z.first (endZ z) z.free k = true, fun k => ⟨[(0, ⟨[], true, .lst 6 t (rowsZ l)⟩), (2, ⟨[], true, .bool false⟩), (3, ⟨[], true, .int .i64 f⟩), (4, ⟨[], true, .int .i64 (i : Int)⟩), (5, ⟨[], true, .ptr 0 0 0⟩), (6, ⟨[], true, .int .i64 (k : Int)⟩)], [(0, .box z.c)], 1⟩, fun k => z.free.length - k, ⟨0, ⟨by omega, rfl⟩, ?_⟩, fun k hJ => ?_⟩
    · refine viewI [some ?k138_0] rfl rfl ?h3_138 ?h4_138 ?h5_138 ?h6_138 ?h7_138
      case' h7_138 => repeat' (first | exact trivial | rfl | exact .inl rfl | exact .inr rfl | exact id | exact (fun h => Bool.noConfusion h) | refine And.intro ?_ ?_)
      case' h4_138 => rfl
      case' h6_138 => rfl
      case' h3_138 => repeat' (first | exact trivial | rfl | exact .inl rfl | exact .inr rfl | exact id | exact (fun h => Bool.noConfusion h) | refine And.intro ?_ ?_)
      case' h5_138 => repeat' (first | exact trivial | rfl | exact .inl rfl | exact .inr rfl | exact id | exact (fun h => Bool.noConfusion h) | refine And.intro ?_ ?_)
    obtain ⟨hJ1, hJ2⟩ := hJ
    repeat ((conv => whnf); first | refine Cd.go ?_ | refine ⟨rfl, ?_⟩ | refine rq_dec ⟨.inl rfl, rfl⟩ ?_ | refine rq_dec rfl ?_ | refine ⟨Nat.le_of_ble_eq_true rfl, ?_⟩ | refine ⟨.inl rfl, ?_⟩ | refine ⟨fun _ => ⟨rfl, Nat.le_of_ble_eq_true rfl⟩, ?_⟩ | refine ⟨fun _ => Nat.le_of_ble_eq_true rfl, ?_⟩ | refine ⟨fun h => Bool.noConfusion h, ?_⟩)
    conv => whnf
    rw [rowsI_len]
    refine cq_intro (fun h5 => ?_) (fun h5 => ?_) <;> try simp only [Bool.cond_true_left, Bool.cond_false_right, Bool.not_eq_true', Bool.not_eq_false', Bool.not_not] at h5
    · have h5 : k < z.free.length := by simp at h5; omega
      repeat ((conv => whnf); first | refine Cd.go ?_ | refine ⟨rfl, ?_⟩ | refine rq_dec ⟨.inl rfl, rfl⟩ ?_ | refine rq_dec rfl ?_ | refine ⟨Nat.le_of_ble_eq_true rfl, ?_⟩ | refine ⟨.inl rfl, ?_⟩ | refine ⟨fun _ => ⟨rfl, Nat.le_of_ble_eq_true rfl⟩, ?_⟩ | refine ⟨fun _ => Nat.le_of_ble_eq_true rfl, ?_⟩ | refine ⟨fun h => Bool.noConfusion h, ?_⟩)
      conv => whnf
      first | refine rq_dec (⟨rfl, by omega, by rw [rowsI_len]; omega⟩) ?_ | refine gq_dec (fun _ => ⟨rfl, by omega, by rw [rowsI_len]; omega⟩) ?_ | refine ⟨fun _ => ⟨rfl, by omega, by rw [rowsI_len]; omega⟩, ?_⟩
      rw [Int.toNat_natCast, rowsI_get z.free k h5]
      repeat ((conv => whnf); first | refine Cd.go ?_ | refine ⟨rfl, ?_⟩ | refine rq_dec ⟨.inl rfl, rfl⟩ ?_ | refine rq_dec rfl ?_ | refine ⟨Nat.le_of_ble_eq_true rfl, ?_⟩ | refine ⟨.inl rfl, ?_⟩ | refine ⟨fun _ => ⟨rfl, Nat.le_of_ble_eq_true rfl⟩, ?_⟩ | refine ⟨fun _ => Nat.le_of_ble_eq_true rfl, ?_⟩ | refine ⟨fun h => Bool.noConfusion h, ?_⟩)
      conv => whnf
      first | refine rq_dec (⟨rfl, by omega, by rw [rowsI_len]; omega⟩) ?_ | refine gq_dec (fun _ => ⟨rfl, by omega, by rw [rowsI_len]; omega⟩) ?_ | refine ⟨fun _ => ⟨rfl, by omega, by rw [rowsI_len]; omega⟩, ?_⟩
      rw [Int.toNat_natCast, rowsI_get z.free k h5]
      repeat ((conv => whnf); first | refine Cd.go ?_ | refine ⟨rfl, ?_⟩ | refine rq_dec ⟨.inl rfl, rfl⟩ ?_ | refine rq_dec rfl ?_ | refine ⟨Nat.le_of_ble_eq_true rfl, ?_⟩ | refine ⟨.inl rfl, ?_⟩ | refine ⟨fun _ => ⟨rfl, Nat.le_of_ble_eq_true rfl⟩, ?_⟩ | refine ⟨fun _ => Nat.le_of_ble_eq_true rfl, ?_⟩ | refine ⟨fun h => Bool.noConfusion h, ?_⟩)
      conv => whnf
      first | refine rq_dec (⟨rfl, by omega, by rw [rowsI_len]; omega⟩) ?_ | refine gq_dec (fun _ => ⟨rfl, by omega, by rw [rowsI_len]; omega⟩) ?_ | refine ⟨fun _ => ⟨rfl, by omega, by rw [rowsI_len]; omega⟩, ?_⟩
      rw [Int.toNat_natCast, rowsI_get z.free k h5]
      repeat ((conv => whnf); first | refine Cd.go ?_ | refine ⟨rfl, ?_⟩ | refine rq_dec ⟨.inl rfl, rfl⟩ ?_ | refine rq_dec rfl ?_ | refine ⟨Nat.le_of_ble_eq_true rfl, ?_⟩ | refine ⟨.inl rfl, ?_⟩ | refine ⟨fun _ => ⟨rfl, Nat.le_of_ble_eq_true rfl⟩, ?_⟩ | refine ⟨fun _ => Nat.le_of_ble_eq_true rfl, ?_⟩ | refine ⟨fun h => Bool.noConfusion h, ?_⟩)
      conv => whnf
      rw [prev_nat k (by omega)]
      first | refine gq_dec (fun hg => ⟨rfl, ?_, ?_⟩) ?_ | refine ⟨fun hg => ⟨rfl, ?_, ?_⟩, ?_⟩
      · simp only [Bool.and_eq_true, decide_eq_true_eq] at hg
        rw [prev_int k (by omega)]; omega
      · rw [prev_int k (by omega), rowsI_len]; omega
      rw [rowsI_get z.free (k - 1) (by omega)]
      repeat ((conv => whnf); first | refine Cd.go ?_ | refine ⟨rfl, ?_⟩ | refine rq_dec ⟨.inl rfl, rfl⟩ ?_ | refine rq_dec rfl ?_ | refine ⟨Nat.le_of_ble_eq_true rfl, ?_⟩ | refine ⟨.inl rfl, ?_⟩ | refine ⟨fun _ => ⟨rfl, Nat.le_of_ble_eq_true rfl⟩, ?_⟩ | refine ⟨fun _ => Nat.le_of_ble_eq_true rfl, ?_⟩ | refine ⟨fun h => Bool.noConfusion h, ?_⟩)
      conv => whnf
      rw [getI, getI]
      refine cq_intro (fun h6 => ?_) (fun h6 => ?_) <;> try simp only [Bool.cond_true_left, Bool.cond_false_right, Bool.not_eq_true', Bool.not_eq_false', Bool.not_not] at h6
      · have h6 : freeBad z.first (endZ z) z.free k = true := h6
        rw [checkZ, hI2, e5, ascN_bad _ _ _ _ k h5 h6] at hk
        have hk : q = false := by rw [← hk]; rfl
        subst hk
        repeat ((conv => whnf); first | refine Cd.go ?_ | refine ⟨rfl, ?_⟩ | refine rq_dec ⟨.inl rfl, rfl⟩ ?_ | refine rq_dec rfl ?_ | refine ⟨Nat.le_of_ble_eq_true rfl, ?_⟩ | refine ⟨.inl rfl, ?_⟩ | refine ⟨fun _ => ⟨rfl, Nat.le_of_ble_eq_true rfl⟩, ?_⟩ | refine ⟨fun _ => Nat.le_of_ble_eq_true rfl, ?_⟩ | refine ⟨fun h => Bool.noConfusion h, ?_⟩)
        conv => whnf
        refine ⟨[], trivial, rfl, trivial, rfl, ?_⟩
        try subst hk
        repeat' (first | exact trivial | rfl | exact .inl rfl | exact .inr rfl | exact id | exact (fun h => Bool.noConfusion h) | refine And.intro ?_ ?_)
      have h6 : freeBad z.first (endZ z) z.free k = false := h6
      repeat ((conv => whnf); first | refine Cd.go ?_ | refine ⟨rfl, ?_⟩ | refine rq_dec ⟨.inl rfl, rfl⟩ ?_ | refine rq_dec rfl ?_ | refine ⟨Nat.le_of_ble_eq_true rfl, ?_⟩ | refine ⟨.inl rfl, ?_⟩ | refine ⟨fun _ => ⟨rfl, Nat.le_of_ble_eq_true rfl⟩, ?_⟩ | refine ⟨fun _ => Nat.le_of_ble_eq_true rfl, ?_⟩ | refine ⟨fun h => Bool.noConfusion h, ?_⟩)
      conv => whnf
      rw [wrapI (n := (k : Int) + 1) (by omega) (by omega), show ((k : Int) + 1) = ((k + 1 : Nat) : Int) by omega]
      refine ⟨k + 1, ⟨by omega, by simp only [ascN, hJ2, h6]; rfl⟩, ?_, by show z.free.length - (k + 1) < z.free.length - k; omega⟩
      refine viewI [some 0] rfl rfl ?_ rfl ?_ rfl ?_
      repeat' (first | exact trivial | rfl | exact .inl rfl | exact .inr rfl | exact id | exact (fun h => Bool.noConfusion h) | refine And.intro ?_ ?_)
    have h5 : k = z.free.length := by simp at h5; omega
    rw [e5, ← h5, hJ2, Bool.true_and] at hI2
    repeat ((conv => whnf); first | refine Cd.go ?_ | refine ⟨rfl, ?_⟩ | refine rq_dec ⟨.inl rfl, rfl⟩ ?_ | refine rq_dec rfl ?_ | refine ⟨Nat.le_of_ble_eq_true rfl, ?_⟩ | refine ⟨.inl rfl, ?_⟩ | refine ⟨fun _ => ⟨rfl, Nat.le_of_ble_eq_true rfl⟩, ?_⟩ | refine ⟨fun _ => Nat.le_of_ble_eq_true rfl, ?_⟩ | refine ⟨fun h => Bool.noConfusion h, ?_⟩)
    conv => whnf
    rw [wrapI (n := f + z.size) (by omega) (by omega), wrapI (n := (i : Int) + 1) (by omega) (by omega), show ((i : Int) + 1) = ((i + 1 : Nat) : Int) by omega]
    refine ⟨(i + 1, endZ z), ⟨by show i + 1 ≤ _; omega, e4, hI2⟩, ?_, by show l.length - (i + 1) < l.length - i; omega⟩
    rw [← e3]
    refine viewI [] rfl rfl ?_ rfl ?_ rfl ?_
    repeat' (first | exact trivial | rfl | exact .inl rfl | exact .inr rfl | exact id | exact (fun h => Bool.noConfusion h) | refine And.intro ?_ ?_)
  have h3 : i = l.length := by simp at h3; omega
  rw [h3, List.drop_length, chkF] at hI2
  rw [checkZ, hI2, Bool.true_and] at hk
  repeat ((conv => whnf); first | refine Cd.go ?_ | refine ⟨rfl, ?_⟩ | refine rq_dec ⟨.inl rfl, rfl⟩ ?_ | refine rq_dec rfl ?_ | refine ⟨Nat.le_of_ble_eq_true rfl, ?_⟩ | refine ⟨.inl rfl, ?_⟩ | refine ⟨fun _ => ⟨rfl, Nat.le_of_ble_eq_true rfl⟩, ?_⟩ | refine ⟨fun _ => Nat.le_of_ble_eq_true rfl, ?_⟩ | refine ⟨fun h => Bool.noConfusion h, ?_⟩)
  conv => whnf
  rw [rowsZ_len]
  subst hk
  repeat ((conv => whnf); first | refine Cd.go ?_ | refine ⟨rfl, ?_⟩ | refine rq_dec ⟨.inl rfl, rfl⟩ ?_ | refine rq_dec rfl ?_ | refine ⟨Nat.le_of_ble_eq_true rfl, ?_⟩ | refine ⟨.inl rfl, ?_⟩ | refine ⟨fun _ => ⟨rfl, Nat.le_of_ble_eq_true rfl⟩, ?_⟩ | refine ⟨fun _ => Nat.le_of_ble_eq_true rfl, ?_⟩ | refine ⟨fun h => Bool.noConfusion h, ?_⟩)
  conv => whnf
  refine ⟨[], trivial, rfl, trivial, rfl, ?_⟩
  try subst hk
  repeat' (first | exact trivial | rfl | exact .inl rfl | exact .inr rfl | exact id | exact (fun h => Bool.noConfusion h) | refine And.intro ?_ ?_)
end Go.Proofs.YtmhapcbjjpadnaaGreat

set_option maxRecDepth 40000
namespace Go.Proofs.YtmhapcbjjpadnaaGreat
open Go Go.Sk Go.RowKit

def exZ (z : Zn) : Zn := ⟨z.first, z.size, z.min, z.low, z.high, z.free, true⟩
def cloned (l : List Zn) (i : Nat) : List Zn := (l.take i).map exZ ++ l.drop i
theorem cloned_len (l : List Zn) (i : Nat) : (cloned l i).length = l.length := by simp [cloned]; omega
theorem cloned_get (l : List Zn) (i : Nat) (h : i < l.length) : (cloned l i)[i]'(by rw [cloned_len]; exact h) = l[i] := by
  have hl : ((l.take i).map exZ).length = i := by simp; omega
  simp only [cloned]
  rw [List.getElem_append_right (by omega)]
  simp only [hl, Nat.sub_self, List.getElem_drop, Nat.add_zero]
theorem cloned_set (l : List Zn) (i : Nat) (h : i < l.length) : (cloned l i).set i (exZ l[i]) = cloned l (i + 1) := by
  have hl : ((l.take i).map exZ).length = i := by simp; omega
  simp only [cloned]
  rw [List.set_append_right _ _ (by omega), hl, Nat.sub_self, List.drop_eq_getElem_cons h, List.set_cons_zero, List.take_succ_eq_append_getElem h, List.map_append, List.append_assoc]
  rfl
theorem cloned_all (l : List Zn) : cloned l l.length = l.map exZ := by simp [cloned]
theorem cloned_zero (l : List Zn) : cloned l 0 = l := by simp [cloned]
/-- A zone's list of free frames is replaced. -/
theorem putFree (L : List Zn) (i : Nat) (h : i < L.length) (f : List Int) (e : Bool) :
    (rowsZ L).set i (putCells 6 ((rowsZ L).getD i []) 5 [.lst 1 e (rowsI f)]) = rowsZ (L.set i ⟨(L[i]'h).first, (L[i]'h).size, (L[i]'h).min, (L[i]'h).low, (L[i]'h).high, f, e⟩) := by
  rw [rowsZ_get L i h, rowsZ, rowsZ, List.map_set]
  rfl
theorem cpy_row {rows : List (List V)} {n : Nat} {z : List V} (h : rows.length = n) : (List.replicate n z).take 0 ++ rows.take (min rows.length n) ++ (List.replicate n z).drop (0 + min rows.length n) = rows := by
  subst h
  simp
set_option maxRecDepth 20000 in
theorem ok210 (l : List Zn) (t : Bool) (hl : SmallZ l) : FnC Tryz.prog 210 [] [.lst 6 t (rowsZ l)] (.sl 0 0 l.length) [.row 6 (rowsZ (l.map exZ))] := by
  have hlen := hl.len
  refine fn_okX (ob0 := []) [.r 26] Tryz.func210 rfl rfl rfl rfl ?_
  repeat ((conv => whnf); first | refine Cd.go ?_ | refine ⟨rfl, ?_⟩ | refine rq_dec ⟨.inl rfl, rfl⟩ ?_ | refine rq_dec rfl ?_ | refine ⟨Nat.le_of_ble_eq_true rfl, ?_⟩ | refine ⟨.inl rfl, ?_⟩ | refine ⟨fun _ => ⟨rfl, Nat.le_of_ble_eq_true rfl⟩, ?_⟩ | refine ⟨fun _ => Nat.le_of_ble_eq_true rfl, ?_⟩ | refine ⟨fun h => Bool.noConfusion h, ?_⟩)
  conv => whnf
  refine .inr ⟨fun _ => ⟨[], _, _, _, ok187 (rowsZ l) t (by rw [rowsZ_len]; omega), trivial, rfl, rfl, rfl, ?_⟩, (by intro h; cases h)⟩
  rw [rowsZ_len]
  repeat ((conv => whnf); first | refine Cd.go ?_ | refine ⟨rfl, ?_⟩ | refine rq_dec ⟨.inl rfl, rfl⟩ ?_ | refine rq_dec rfl ?_ | refine ⟨Nat.le_of_ble_eq_true rfl, ?_⟩ | refine ⟨.inl rfl, ?_⟩ | refine ⟨fun _ => ⟨rfl, Nat.le_of_ble_eq_true rfl⟩, ?_⟩ | refine ⟨fun _ => Nat.le_of_ble_eq_true rfl, ?_⟩ | refine ⟨fun h => Bool.noConfusion h, ?_⟩)
  conv => whnf
  refine ⟨Nat, fun i => i ≤ l.length, fun i => ⟨[(0, ⟨[], true, .lst 6 t (rowsZ l)⟩), (3, ⟨[], true, .sl 0 0 l.length⟩), (9, ⟨[], true, .int .i64 (l.length : Int)⟩), (10, ⟨[], true, .int .i64 (i : Int)⟩)], [(0, .row 6 (rowsZ (cloned l i)))], 1⟩, fun i => l.length - i, ⟨0, by omega, ?_⟩, fun i hI => ?_⟩
  · refine viewI [some 0] rfl rfl ?_ rfl ?_ rfl ?_
    repeat' (first | exact trivial | rfl | exact .inl rfl | exact .inr rfl | exact id | exact (fun h => Bool.noConfusion h) | refine And.intro ?_ ?_)
    try rw [cloned_zero]
  have hI : i ≤ l.length := hI
  repeat ((conv => whnf); first | refine Cd.go ?_ | refine ⟨rfl, ?_⟩ | refine rq_dec ⟨.inl rfl, rfl⟩ ?_ | refine rq_dec rfl ?_ | refine ⟨Nat.le_of_ble_eq_true rfl, ?_⟩ | refine ⟨.inl rfl, ?_⟩ | refine ⟨fun _ => ⟨rfl, Nat.le_of_ble_eq_true rfl⟩, ?_⟩ | refine ⟨fun _ => Nat.le_of_ble_eq_true rfl, ?_⟩ | refine ⟨fun h => Bool.noConfusion h, ?_⟩)
  conv => whnf
  refine cq_intro (fun h3 => ?_) (fun h3 => ?_) <;> try simp only [Bool.cond_true_left, Bool.cond_false_right, Bool.not_eq_true', Bool.not_eq_false', Bool.not_not] at h3
  · have h3 : i < l.length := by simp at h3; omega
    have hf := hl.free _ (List.getElem_mem h3)
    repeat ((conv => whnf); first | refine Cd.go ?_ | refine ⟨rfl, ?_⟩ | refine rq_dec ⟨.inl rfl, rfl⟩ ?_ | refine rq_dec rfl ?_ | refine ⟨Nat.le_of_ble_eq_true rfl, ?_⟩ | refine ⟨.inl rfl, ?_⟩ | refine ⟨fun _ => ⟨rfl, Nat.le_of_ble_eq_true rfl⟩, ?_⟩ | refine ⟨fun _ => Nat.le_of_ble_eq_true rfl, ?_⟩ | refine ⟨fun h => Bool.noConfusion h, ?_⟩)
    conv => whnf
    first | refine rq_dec (⟨rfl, by omega, by rw [rowsZ_len]; omega⟩) ?_ | refine gq_dec (fun _ => ⟨rfl, by omega, by rw [rowsZ_len]; omega⟩) ?_ | refine ⟨fun _ => ⟨rfl, by omega, by rw [rowsZ_len]; omega⟩, ?_⟩
    rw [Int.toNat_natCast, rowsZ_get l i h3]
    generalize hz : l[i] = z at hf
    repeat ((conv => whnf); first | refine Cd.go ?_ | refine ⟨rfl, ?_⟩ | refine rq_dec ⟨.inl rfl, rfl⟩ ?_ | refine rq_dec rfl ?_ | refine ⟨Nat.le_of_ble_eq_true rfl, ?_⟩ | refine ⟨.inl rfl, ?_⟩ | refine ⟨fun _ => ⟨rfl, Nat.le_of_ble_eq_true rfl⟩, ?_⟩ | refine ⟨fun _ => Nat.le_of_ble_eq_true rfl, ?_⟩ | refine ⟨fun h => Bool.noConfusion h, ?_⟩)
    conv => whnf
    rw [rowsI_len]
    repeat ((conv => whnf); first | refine Cd.go ?_ | refine ⟨rfl, ?_⟩ | refine rq_dec ⟨.inl rfl, rfl⟩ ?_ | refine rq_dec rfl ?_ | refine ⟨Nat.le_of_ble_eq_true rfl, ?_⟩ | refine ⟨.inl rfl, ?_⟩ | refine ⟨fun _ => ⟨rfl, Nat.le_of_ble_eq_true rfl⟩, ?_⟩ | refine ⟨fun _ => Nat.le_of_ble_eq_true rfl, ?_⟩ | refine ⟨fun h => Bool.noConfusion h, ?_⟩)
    conv => whnf
    first | refine rq_mk (by omega) (by omega) (by omega) (by omega) ?_ | refine rq_dec ⟨by omega, by omega, by omega, by omega⟩ ?_ | refine ⟨by omega, by omega, by omega, by omega, ?_⟩
    rw [Int.toNat_natCast]
    repeat ((conv => whnf); first | refine Cd.go ?_ | refine ⟨rfl, ?_⟩ | refine rq_dec ⟨.inl rfl, rfl⟩ ?_ | refine rq_dec rfl ?_ | refine ⟨Nat.le_of_ble_eq_true rfl, ?_⟩ | refine ⟨.inl rfl, ?_⟩ | refine ⟨fun _ => ⟨rfl, Nat.le_of_ble_eq_true rfl⟩, ?_⟩ | refine ⟨fun _ => Nat.le_of_ble_eq_true rfl, ?_⟩ | refine ⟨fun h => Bool.noConfusion h, ?_⟩)
    conv => whnf
    refine ⟨Unit, fun _ => True, fun _ => ⟨[(0, ⟨[], true, .lst 6 t (rowsZ l)⟩), (3, ⟨[], true, .sl 0 0 l.length⟩), (4, ⟨[], true, .int .i64 (i : Int)⟩), (5, ⟨[], true, .lst 1 true (rowsI z.free)⟩), (9, ⟨[], true, .int .i64 (l.length : Int)⟩), (10, ⟨[], true, .int .i64 (i : Int)⟩)], [(0, .row 6 (rowsZ (cloned l i)))], 1⟩, ?_, fun _ _ => ?_⟩
    · repeat ((conv => whnf); first | refine Cd.go ?_ | refine ⟨rfl, ?_⟩ | refine rq_dec ⟨.inl rfl, rfl⟩ ?_ | refine rq_dec rfl ?_ | refine ⟨Nat.le_of_ble_eq_true rfl, ?_⟩ | refine ⟨.inl rfl, ?_⟩ | refine ⟨fun _ => ⟨rfl, Nat.le_of_ble_eq_true rfl⟩, ?_⟩ | refine ⟨fun _ => Nat.le_of_ble_eq_true rfl, ?_⟩ | refine ⟨fun h => Bool.noConfusion h, ?_⟩)
      conv => whnf
      first | refine rq_dec (⟨rfl, by omega, by rw [rowsZ_len]; omega⟩) ?_ | refine gq_dec (fun _ => ⟨rfl, by omega, by rw [rowsZ_len]; omega⟩) ?_ | refine ⟨fun _ => ⟨rfl, by omega, by rw [rowsZ_len]; omega⟩, ?_⟩
      rw [Int.toNat_natCast, rowsZ_get l i h3, hz]
      repeat ((conv => whnf); first | refine Cd.go ?_ | refine ⟨rfl, ?_⟩ | refine rq_dec ⟨.inl rfl, rfl⟩ ?_ | refine rq_dec rfl ?_ | refine ⟨Nat.le_of_ble_eq_true rfl, ?_⟩ | refine ⟨.inl rfl, ?_⟩ | refine ⟨fun _ => ⟨rfl, Nat.le_of_ble_eq_true rfl⟩, ?_⟩ | refine ⟨fun _ => Nat.le_of_ble_eq_true rfl, ?_⟩ | refine ⟨fun h => Bool.noConfusion h, ?_⟩)
      conv => whnf
      first | refine rq_dec (by simp) ?_ | refine ⟨by simp, ?_⟩
      rw [cpy_row (rowsI_len _)]
      repeat ((conv => whnf); first | refine Cd.go ?_ | refine ⟨rfl, ?_⟩ | refine rq_dec ⟨.inl rfl, rfl⟩ ?_ | refine rq_dec rfl ?_ | refine ⟨Nat.le_of_ble_eq_true rfl, ?_⟩ | refine ⟨.inl rfl, ?_⟩ | refine ⟨fun _ => ⟨rfl, Nat.le_of_ble_eq_true rfl⟩, ?_⟩ | refine ⟨fun _ => Nat.le_of_ble_eq_true rfl, ?_⟩ | refine ⟨fun h => Bool.noConfusion h, ?_⟩)
      conv => whnf
      refine ⟨(), trivial, ?_⟩
      refine viewI [some 0] rfl rfl ?_ rfl ?_ rfl ?_
      repeat' (first | exact trivial | rfl | exact .inl rfl | exact .inr rfl | exact id | exact (fun h => Bool.noConfusion h) | refine And.intro ?_ ?_)
      · exact fun _ => rfl
      · show 0 + z.free.length ≤ (rowsI z.free).length
        rw [rowsI_len]; omega
      · exact take0 (rowsI_len _)
    · repeat ((conv => whnf); first | refine Cd.go ?_ | refine ⟨rfl, ?_⟩ | refine rq_dec ⟨.inl rfl, rfl⟩ ?_ | refine rq_dec rfl ?_ | refine ⟨Nat.le_of_ble_eq_true rfl, ?_⟩ | refine ⟨.inl rfl, ?_⟩ | refine ⟨fun _ => ⟨rfl, Nat.le_of_ble_eq_true rfl⟩, ?_⟩ | refine ⟨fun _ => Nat.le_of_ble_eq_true rfl, ?_⟩ | refine ⟨fun h => Bool.noConfusion h, ?_⟩)
      conv => whnf
      first | refine rq_dec (⟨by omega, by omega⟩) ?_ | refine gq_dec (fun _ => ⟨by omega, by omega⟩) ?_ | refine ⟨fun _ => ⟨by omega, by omega⟩, ?_⟩
      repeat ((conv => whnf); first | refine Cd.go ?_ | refine ⟨rfl, ?_⟩ | refine rq_dec ⟨.inl rfl, rfl⟩ ?_ | refine rq_dec rfl ?_ | refine ⟨Nat.le_of_ble_eq_true rfl, ?_⟩ | refine ⟨.inl rfl, ?_⟩ | refine ⟨fun _ => ⟨rfl, Nat.le_of_ble_eq_true rfl⟩, ?_⟩ | refine ⟨fun _ => Nat.le_of_ble_eq_true rfl, ?_⟩ | refine ⟨fun h => Bool.noConfusion h, ?_⟩)
      conv => whnf
      first | refine rq_dec (by rw [rowsZ_len, cloned_len]; omega) ?_ | refine ⟨by rw [rowsZ_len, cloned_len]; omega, ?_⟩
      repeat ((conv => whnf); first | refine Cd.go ?_ | refine ⟨rfl, ?_⟩ | refine rq_dec ⟨.inl rfl, rfl⟩ ?_ | refine rq_dec rfl ?_ | refine ⟨Nat.le_of_ble_eq_true rfl, ?_⟩ | refine ⟨.inl rfl, ?_⟩ | refine ⟨fun _ => ⟨rfl, Nat.le_of_ble_eq_true rfl⟩, ?_⟩ | refine ⟨fun _ => Nat.le_of_ble_eq_true rfl, ?_⟩ | refine ⟨fun h => Bool.noConfusion h, ?_⟩)
      conv => whnf
      rw [Int.toNat_natCast, Nat.zero_add, wrapI (n := (i : Int) + 1) (by omega) (by omega), show ((i : Int) + 1) = ((i + 1 : Nat) : Int) by omega]
      refine ⟨i + 1, by show i + 1 ≤ _; omega, ?_, by show l.length - (i + 1) < l.length - i; omega⟩
      refine viewI [some 0] rfl rfl ?_ rfl ?_ rfl ?_
      repeat' (first | exact trivial | rfl | exact .inl rfl | exact .inr rfl | exact id | exact (fun h => Bool.noConfusion h) | refine And.intro ?_ ?_)
      refine (putFree (cloned l i) i (by rw [cloned_len]; exact h3) z.free true).trans ?_
      rw [cloned_get l i h3, ← cloned_set l i h3, hz]
      rfl
  have h3 : i = l.length := by simp at h3; omega
  subst h3
  rw [cloned_all]
  repeat ((conv => whnf); first | refine Cd.go ?_ | refine ⟨rfl, ?_⟩ | refine rq_dec ⟨.inl rfl, rfl⟩ ?_ | refine rq_dec rfl ?_ | refine ⟨Nat.le_of_ble_eq_true rfl, ?_⟩ | refine ⟨.inl rfl, ?_⟩ | refine ⟨fun _ => ⟨rfl, Nat.le_of_ble_eq_true rfl⟩, ?_⟩ | refine ⟨fun _ => Nat.le_of_ble_eq_true rfl, ?_⟩ | refine ⟨fun h => Bool.noConfusion h, ?_⟩)
  conv => whnf
  try subst hk
  refine ⟨[some 0], ?_, rfl, ?_, rfl, ?_⟩
  all_goals repeat' (first | exact trivial | rfl | exact .inl rfl | exact .inr rfl | exact id | exact (fun h => Bool.noConfusion h) | refine And.intro ?_ ?_)
end Go.Proofs.YtmhapcbjjpadnaaGreat

set_option maxRecDepth 40000
namespace Go.Proofs.YtmhapcbjjpadnaaGreat
open Go Go.Sk Go.RowKit

structure GoodZ (z : Zn) : Prop where
  first : 1 ≤ z.first
  size : 1 ≤ z.size ∧ z.size ≤ 64
  stop : z.first + z.size ≤ 65
  marks : 0 ≤ z.min ∧ z.min ≤ z.low ∧ z.low ≤ z.high ∧ z.high ≤ z.size
  asc : ascN z.first (z.first + z.size) z.free z.free.length = true
theorem right_good {z : Zn} {f : Int} (hf : 1 ≤ f ∧ f ≤ 65) (h : rightZ z f = true) : GoodZ z ∧ z.first = f ∧ endZ z = f + z.size := by
  rw [rightZ] at h
  cases h1 : headBad z f with
  | true => rw [h1] at h; cases h
  | false =>
    cases h2 : markBad z with
    | true => rw [h1, h2] at h; cases h
    | false =>
      rw [h1, h2] at h
      simp only [cond_false] at h
      simp only [headBad, Bool.or_eq_false_iff, decide_eq_false_iff_not, bne_eq_false_iff_eq] at h1
      simp only [markBad, Bool.or_eq_false_iff, decide_eq_false_iff_not] at h2
      have he : endZ z = z.first + z.size := by rw [endZ, wrapI (by omega) (by omega)]
      rw [he] at h h1
      exact ⟨⟨by omega, by omega, by omega, by omega, h⟩, by omega, by omega⟩
theorem chkF_good : ∀ (l : List Zn) (f : Int), 1 ≤ f ∧ f ≤ 65 → chkF f l = true → ∀ z ∈ l, GoodZ z
  | [], _, _, _ => by simp
  | z :: r, f, hf, h => by
    simp only [chkF, Bool.and_eq_true] at h
    obtain ⟨g, h1, h2⟩ := right_good hf h.1
    have := g.stop
    have := g.size
    intro y hy
    rcases List.mem_cons.1 hy with rfl | hy
    · exact g
    · exact chkF_good r _ (by omega) h.2 y hy
theorem check_good {l : List Zn} (h : checkZ l = true) : ∀ z ∈ l, GoodZ z := by
  simp only [checkZ, Bool.and_eq_true] at h
  exact chkF_good l 1 (by decide) h.1
def sumZ (g : Zn → Int) : List Zn → Int
  | [] => 0
  | z :: r => g z + sumZ g r
def freeG (z : Zn) : Int := z.free.length
def wantG (z : Zn) : Int := max 0 (z.high - z.free.length)
def freeF (l : List Zn) : Int := bif checkZ l then sumZ freeG l else 0
def wantF (l : List Zn) : Int := bif checkZ l then sumZ wantG l else 0
def lowG (z : Zn) : Bool := decide ((z.free.length : Int) < z.low)
def lowF (l : List Zn) : Bool := bif checkZ l then decide (0 ≤ idxF lowG l) else false
theorem freeG_in {l : List Zn} (hl : SmallZ l) {i : Nat} (h : i < l.length) : 0 ≤ freeG l[i] ∧ freeG l[i] ≤ 100000 := by
  have := hl.free _ (List.getElem_mem h); unfold freeG; omega
set_option maxRecDepth 20000 in
set_option maxRecDepth 20000 in
theorem ok114 (l : List Zn) (t : Bool) (hl : SmallZ l) : FnC Tryz.prog 114 [] [.lst 6 t (rowsZ l)] (.int .i64 (freeF l)) [] := by
  have hlen := hl.len
  refine fn_okX (ob0 := []) [] Tryz.func114 rfl rfl rfl rfl ?_
  generalize hk : freeF l = q
  repeat ((conv => whnf); first | refine Cd.go ?_ | refine ⟨rfl, ?_⟩ | refine rq_dec ⟨.inl rfl, rfl⟩ ?_ | refine rq_dec rfl ?_ | refine ⟨Nat.le_of_ble_eq_true rfl, ?_⟩ | refine ⟨.inl rfl, ?_⟩ | refine ⟨fun _ => ⟨rfl, Nat.le_of_ble_eq_true rfl⟩, ?_⟩ | refine ⟨fun _ => Nat.le_of_ble_eq_true rfl, ?_⟩ | refine ⟨fun h => Bool.noConfusion h, ?_⟩ | refine .inl ⟨_, fun _ => ⟨purA rfl, (by first | exact ok212 l t hl)⟩, .inl rfl, ?_⟩)
  conv => whnf
  first | refine cq_intro (fun h1 => ?_) (fun h1 => ?_) | refine ⟨fun h1 => ?_, fun h1 => ?_⟩
  case' refine_2 =>
    simp only [freeF, h1, cond_false] at hk
    subst hk
    repeat ((conv => whnf); first | refine Cd.go ?_ | refine ⟨rfl, ?_⟩ | refine rq_dec ⟨.inl rfl, rfl⟩ ?_ | refine rq_dec rfl ?_ | refine ⟨Nat.le_of_ble_eq_true rfl, ?_⟩ | refine ⟨.inl rfl, ?_⟩ | refine ⟨fun _ => ⟨rfl, Nat.le_of_ble_eq_true rfl⟩, ?_⟩ | refine ⟨fun _ => Nat.le_of_ble_eq_true rfl, ?_⟩ | refine ⟨fun h => Bool.noConfusion h, ?_⟩)
    conv => whnf
    refine ⟨[], trivial, rfl, trivial, rfl, ?_⟩
    try subst hk
    repeat' (first | exact trivial | rfl | exact .inl rfl | exact .inr rfl | exact id | exact (fun h => Bool.noConfusion h) | refine And.intro ?_ ?_)
  simp only [freeF, h1, cond_true] at hk
  repeat ((conv => whnf); first | refine Cd.go ?_ | refine ⟨rfl, ?_⟩ | refine rq_dec ⟨.inl rfl, rfl⟩ ?_ | refine rq_dec rfl ?_ | refine ⟨Nat.le_of_ble_eq_true rfl, ?_⟩ | refine ⟨.inl rfl, ?_⟩ | refine ⟨fun _ => ⟨rfl, Nat.le_of_ble_eq_true rfl⟩, ?_⟩ | refine ⟨fun _ => Nat.le_of_ble_eq_true rfl, ?_⟩ | refine ⟨fun h => Bool.noConfusion h, ?_⟩)
  conv => whnf
  refine ⟨Nat × Int, fun p => p.1 ≤ l.length ∧ p.2 + sumZ freeG (l.drop p.1) = q ∧ 0 ≤ p.2 ∧ p.2 ≤ 100000 * (p.1 : Int), fun p => ⟨[(0, ⟨[], true, .lst 6 t (rowsZ l)⟩), (2, ⟨[], true, .int .i64 0⟩), (3, ⟨[], true, .int .i64 p.2⟩), (4, ⟨[], true, .int .i64 (p.1 : Int)⟩)], [], 0⟩, fun p => l.length - p.1, ⟨(0, 0), ⟨by simp, by simpa using hk, by simp, by simp⟩, ?_⟩, fun p hI => ?_⟩
  · refine viewI [] rfl rfl ?_ rfl ?_ rfl ?_
    repeat' (first | exact trivial | rfl | exact .inl rfl | exact .inr rfl | exact id | exact (fun h => Bool.noConfusion h) | refine And.intro ?_ ?_)
  obtain ⟨i, s⟩ := p
  obtain ⟨hI1, hI2, hI3, hI4⟩ := hI
  simp only at hI1 hI2 hI3 hI4
  repeat ((conv => whnf); first | refine Cd.go ?_ | refine ⟨rfl, ?_⟩ | refine rq_dec ⟨.inl rfl, rfl⟩ ?_ | refine rq_dec rfl ?_ | refine ⟨Nat.le_of_ble_eq_true rfl, ?_⟩ | refine ⟨.inl rfl, ?_⟩ | refine ⟨fun _ => ⟨rfl, Nat.le_of_ble_eq_true rfl⟩, ?_⟩ | refine ⟨fun _ => Nat.le_of_ble_eq_true rfl, ?_⟩ | refine ⟨fun h => Bool.noConfusion h, ?_⟩)
  conv => whnf
  rw [rowsZ_len]
  refine cq_intro (fun h3 => ?_) (fun h3 => ?_) <;> try simp only [Bool.cond_true_left, Bool.cond_false_right, Bool.not_eq_true', Bool.not_eq_false', Bool.not_not] at h3
  · have h3 : i < l.length := by simp at h3; omega
    have hf := freeG_in hl h3
    have hst : sumZ freeG (l.drop i) = freeG l[i] + sumZ freeG (l.drop (i + 1)) := by rw [List.drop_eq_getElem_cons h3]; rfl
    rw [hst] at hI2
    repeat ((conv => whnf); first | refine Cd.go ?_ | refine ⟨rfl, ?_⟩ | refine rq_dec ⟨.inl rfl, rfl⟩ ?_ | refine rq_dec rfl ?_ | refine ⟨Nat.le_of_ble_eq_true rfl, ?_⟩ | refine ⟨.inl rfl, ?_⟩ | refine ⟨fun _ => ⟨rfl, Nat.le_of_ble_eq_true rfl⟩, ?_⟩ | refine ⟨fun _ => Nat.le_of_ble_eq_true rfl, ?_⟩ | refine ⟨fun h => Bool.noConfusion h, ?_⟩)
    conv => whnf
    first | refine rq_dec (⟨rfl, by omega, by rw [rowsZ_len]; omega⟩) ?_ | refine gq_dec (fun _ => ⟨rfl, by omega, by rw [rowsZ_len]; omega⟩) ?_ | refine ⟨fun _ => ⟨rfl, by omega, by rw [rowsZ_len]; omega⟩, ?_⟩
    rw [Int.toNat_natCast, rowsZ_get l i h3]
    generalize l[i] = z at hI2 hf
    repeat ((conv => whnf); first | refine Cd.go ?_ | refine ⟨rfl, ?_⟩ | refine rq_dec ⟨.inl rfl, rfl⟩ ?_ | refine rq_dec rfl ?_ | refine ⟨Nat.le_of_ble_eq_true rfl, ?_⟩ | refine ⟨.inl rfl, ?_⟩ | refine ⟨fun _ => ⟨rfl, Nat.le_of_ble_eq_true rfl⟩, ?_⟩ | refine ⟨fun _ => Nat.le_of_ble_eq_true rfl, ?_⟩ | refine ⟨fun h => Bool.noConfusion h, ?_⟩)
    conv => whnf
    rw [rowsI_len]
    unfold freeG at hI2 hf
    rw [wrapI (n := s + (z.free.length : Int)) (by omega) (by omega), wrapI (n := (i : Int) + 1) (by omega) (by omega), show ((i : Int) + 1) = ((i + 1 : Nat) : Int) by omega]
    refine ⟨(i + 1, s + (z.free.length : Int)), ⟨by show i + 1 ≤ _; omega, by show s + (z.free.length : Int) + sumZ freeG (l.drop (i + 1)) = q; unfold freeG; omega, by show 0 ≤ s + (z.free.length : Int); omega, by show s + (z.free.length : Int) ≤ 100000 * ((i + 1 : Nat) : Int); omega⟩, ?_, by show l.length - (i + 1) < l.length - i; omega⟩
    refine viewI [] rfl rfl ?_ rfl ?_ rfl ?_
    repeat' (first | exact trivial | rfl | exact .inl rfl | exact .inr rfl | exact id | exact (fun h => Bool.noConfusion h) | refine And.intro ?_ ?_)
  have h3 : i = l.length := by simp at h3; omega
  rw [h3, List.drop_length, sumZ, Int.add_zero] at hI2
  subst hI2
  repeat ((conv => whnf); first | refine Cd.go ?_ | refine ⟨rfl, ?_⟩ | refine rq_dec ⟨.inl rfl, rfl⟩ ?_ | refine rq_dec rfl ?_ | refine ⟨Nat.le_of_ble_eq_true rfl, ?_⟩ | refine ⟨.inl rfl, ?_⟩ | refine ⟨fun _ => ⟨rfl, Nat.le_of_ble_eq_true rfl⟩, ?_⟩ | refine ⟨fun _ => Nat.le_of_ble_eq_true rfl, ?_⟩ | refine ⟨fun h => Bool.noConfusion h, ?_⟩)
  conv => whnf
  refine ⟨[], trivial, rfl, trivial, rfl, ?_⟩
  try subst hk
  repeat' (first | exact trivial | rfl | exact .inl rfl | exact .inr rfl | exact id | exact (fun h => Bool.noConfusion h) | refine And.intro ?_ ?_)
def inG (f : Int) (z : Zn) : Bool := bif decide (z.first ≤ f) then decide (f < endZ z) else false
set_option maxRecDepth 20000 in
theorem ok318 (z : Zn) (f : Int) : FnC Tryz.prog 318 [] [.agg z.c, .rp 1 [.int .i64 f] 0] (.bool (inG f z)) [] := by
  refine fn_okX (ob0 := []) [] Tryz.func318 rfl rfl rfl rfl ?_
  repeat ((conv => whnf); first | refine Cd.go ?_ | refine ⟨rfl, ?_⟩ | refine rq_dec ⟨.inl rfl, rfl⟩ ?_ | refine rq_dec rfl ?_ | refine ⟨Nat.le_of_ble_eq_true rfl, ?_⟩ | refine ⟨.inl rfl, ?_⟩ | refine ⟨fun _ => ⟨rfl, Nat.le_of_ble_eq_true rfl⟩, ?_⟩ | refine ⟨fun _ => Nat.le_of_ble_eq_true rfl, ?_⟩ | refine ⟨fun h => Bool.noConfusion h, ?_⟩ | refine .inl ⟨_, fun _ => ⟨purA rfl, (by first | exact ok292 z)⟩, .inl rfl, ?_⟩)
  conv => whnf
  refine ⟨[], trivial, rfl, trivial, rfl, ?_⟩
  try subst hk
  repeat' (first | exact trivial | rfl | exact .inl rfl | exact .inr rfl | exact id | exact (fun h => Bool.noConfusion h) | refine And.intro ?_ ?_)
theorem call58 : Callable Tryz.prog 318 := ⟨_, Tryz.func318, rfl, rfl⟩
end Go.Proofs.YtmhapcbjjpadnaaGreat

