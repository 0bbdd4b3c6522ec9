/- Caches. -/
import Derived.Test.YtmhapcbjjpadnaaGreatG5
set_option linter.unusedSimpArgs false
set_option linter.unusedVariables false
set_option maxRecDepth 40000
namespace Go.Proofs.YtmhapcbjjpadnaaGreat
open Go Go.Sk Go.RowKit

/-- A list without a number. -/
def wo (l : List Int) (x : Int) : List Int := l.filter (fun y => y != x)
theorem ok196 (l : List Int) (t : Bool) (x : Int) (hl : (l.length : Int) < 2 ^ 62) : FnC Tryz.prog 196 [] [.lst 1 t (rowsI l), .int .i64 x] (.int .i64 (idxF (fun y => y == x) l)) [] := by
  refine fn_okX (ob0 := []) [] Tryz.func196 rfl rfl rfl rfl ?_
  generalize hk : idxF (fun y => y == x) l = q
  repeat ((conv => whnf); first | refine Cd.go ?_ | refine ⟨rfl, ?_⟩ | refine rq_dec ⟨.inl rfl, rfl⟩ ?_ | refine rq_dec rfl ?_ | refine ⟨Nat.le_of_ble_eq_true rfl, ?_⟩ | refine ⟨.inl rfl, ?_⟩ | refine ⟨fun _ => ⟨rfl, Nat.le_of_ble_eq_true rfl⟩, ?_⟩ | refine ⟨fun _ => Nat.le_of_ble_eq_true rfl, ?_⟩ | refine ⟨fun h => Bool.noConfusion h, ?_⟩)
  conv => whnf
  refine ⟨Nat, fun i => i ≤ l.length ∧ ∀ j (hj : j < i) (h : j < l.length), (l[j] == x) = false, fun i => ⟨[(0, ⟨[], true, .lst 1 t (rowsI l)⟩), (1, ⟨[], true, .int .i64 x⟩), (4, ⟨[], true, .int .i64 0⟩), (5, ⟨[], true, .int .i64 (i : Int)⟩)], [], 0⟩, fun i => l.length - i, ⟨0, ⟨by omega, fun j hj => by omega⟩, ?_⟩, fun i hI => ?_⟩
  · refine viewI [] rfl rfl ?_ rfl ?_ rfl ?_
    repeat' (first | exact trivial | rfl | exact .inl rfl | exact .inr rfl | exact id | exact (fun h => Bool.noConfusion h) | refine And.intro ?_ ?_)
  obtain ⟨hI1, hI2⟩ := hI
  repeat ((conv => whnf); first | refine Cd.go ?_ | refine ⟨rfl, ?_⟩ | refine rq_dec ⟨.inl rfl, rfl⟩ ?_ | refine rq_dec rfl ?_ | refine ⟨Nat.le_of_ble_eq_true rfl, ?_⟩ | refine ⟨.inl rfl, ?_⟩ | refine ⟨fun _ => ⟨rfl, Nat.le_of_ble_eq_true rfl⟩, ?_⟩ | refine ⟨fun _ => Nat.le_of_ble_eq_true rfl, ?_⟩ | refine ⟨fun h => Bool.noConfusion h, ?_⟩)
  conv => whnf
  rw [rowsI_len]
  refine cq_intro (fun h2 => ?_) (fun h2 => ?_) <;> try simp only [Bool.cond_true_left, Bool.cond_false_right, Bool.not_eq_true', Bool.not_eq_false', Bool.not_not] at h2
  · have h2 : i < l.length := by simp at h2; omega
    repeat ((conv => whnf); first | refine Cd.go ?_ | refine ⟨rfl, ?_⟩ | refine rq_dec ⟨.inl rfl, rfl⟩ ?_ | refine rq_dec rfl ?_ | refine ⟨Nat.le_of_ble_eq_true rfl, ?_⟩ | refine ⟨.inl rfl, ?_⟩ | refine ⟨fun _ => ⟨rfl, Nat.le_of_ble_eq_true rfl⟩, ?_⟩ | refine ⟨fun _ => Nat.le_of_ble_eq_true rfl, ?_⟩ | refine ⟨fun h => Bool.noConfusion h, ?_⟩)
    conv => whnf
    first | refine rq_dec (⟨rfl, by omega, by rw [rowsI_len]; omega⟩) ?_ | refine gq_dec (fun _ => ⟨rfl, by omega, by rw [rowsI_len]; omega⟩) ?_ | refine ⟨fun _ => ⟨rfl, by omega, by rw [rowsI_len]; omega⟩, ?_⟩
    rw [Int.toNat_natCast, rowsI_get l i h2]
    repeat ((conv => whnf); first | refine Cd.go ?_ | refine ⟨rfl, ?_⟩ | refine rq_dec ⟨.inl rfl, rfl⟩ ?_ | refine rq_dec rfl ?_ | refine ⟨Nat.le_of_ble_eq_true rfl, ?_⟩ | refine ⟨.inl rfl, ?_⟩ | refine ⟨fun _ => ⟨rfl, Nat.le_of_ble_eq_true rfl⟩, ?_⟩ | refine ⟨fun _ => Nat.le_of_ble_eq_true rfl, ?_⟩ | refine ⟨fun h => Bool.noConfusion h, ?_⟩)
    conv => whnf
    refine cq_intro (fun h3 => ?_) (fun h3 => ?_) <;> try simp only [Bool.cond_true_left, Bool.cond_false_right, Bool.not_eq_true', Bool.not_eq_false', Bool.not_not] at h3
    · have : q = i := by rw [← hk]; exact idxF_at _ l i h2 (fun j hj => hI2 j hj (by omega)) h3
      subst this
      repeat ((conv => whnf); first | refine Cd.go ?_ | refine ⟨rfl, ?_⟩ | refine rq_dec ⟨.inl rfl, rfl⟩ ?_ | refine rq_dec rfl ?_ | refine ⟨Nat.le_of_ble_eq_true rfl, ?_⟩ | refine ⟨.inl rfl, ?_⟩ | refine ⟨fun _ => ⟨rfl, Nat.le_of_ble_eq_true rfl⟩, ?_⟩ | refine ⟨fun _ => Nat.le_of_ble_eq_true rfl, ?_⟩ | refine ⟨fun h => Bool.noConfusion h, ?_⟩)
      conv => whnf
      refine ⟨[], trivial, rfl, trivial, rfl, ?_⟩
      try subst hk
      repeat' (first | exact trivial | rfl | exact .inl rfl | exact .inr rfl | exact id | exact (fun h => Bool.noConfusion h) | refine And.intro ?_ ?_)
    repeat ((conv => whnf); first | refine Cd.go ?_ | refine ⟨rfl, ?_⟩ | refine rq_dec ⟨.inl rfl, rfl⟩ ?_ | refine rq_dec rfl ?_ | refine ⟨Nat.le_of_ble_eq_true rfl, ?_⟩ | refine ⟨.inl rfl, ?_⟩ | refine ⟨fun _ => ⟨rfl, Nat.le_of_ble_eq_true rfl⟩, ?_⟩ | refine ⟨fun _ => Nat.le_of_ble_eq_true rfl, ?_⟩ | refine ⟨fun h => Bool.noConfusion h, ?_⟩)
    conv => whnf
    rw [wrapI (n := (i : Int) + 1) (by omega) (by omega), show ((i : Int) + 1) = ((i + 1 : Nat) : Int) by omega]
    refine ⟨i + 1, ⟨by omega, fun j hj h => ?_⟩, ?_, by show l.length - (i + 1) < l.length - i; omega⟩
    · by_cases e : j = i
      · subst e; exact h3
      · exact hI2 j (by omega) h
    refine viewI [] rfl rfl ?_ rfl ?_ rfl ?_
    repeat' (first | exact trivial | rfl | exact .inl rfl | exact .inr rfl | exact id | exact (fun h => Bool.noConfusion h) | refine And.intro ?_ ?_)
  have h2 : i = l.length := by simp at h2; omega
  have : q = -1 := by rw [← hk]; exact idxF_none _ l fun y hy => by obtain ⟨j, hj, rfl⟩ := List.getElem_of_mem hy; exact hI2 j (by omega) hj
  subst this
  repeat ((conv => whnf); first | refine Cd.go ?_ | refine ⟨rfl, ?_⟩ | refine rq_dec ⟨.inl rfl, rfl⟩ ?_ | refine rq_dec rfl ?_ | refine ⟨Nat.le_of_ble_eq_true rfl, ?_⟩ | refine ⟨.inl rfl, ?_⟩ | refine ⟨fun _ => ⟨rfl, Nat.le_of_ble_eq_true rfl⟩, ?_⟩ | refine ⟨fun _ => Nat.le_of_ble_eq_true rfl, ?_⟩ | refine ⟨fun h => Bool.noConfusion h, ?_⟩)
  conv => whnf
  refine ⟨[], trivial, rfl, trivial, rfl, ?_⟩
  try subst hk
  repeat' (first | exact trivial | rfl | exact .inl rfl | exact .inr rfl | exact id | exact (fun h => Bool.noConfusion h) | refine And.intro ?_ ?_)
theorem atM (l : List Int) (x : Int) : decide (0 ≤ idxF (fun y => y == x) l) = decide (x ∈ l) := by
  have : (fun y => y == x) = (fun y => x == y) := by funext y; rw [Bool.eq_iff_iff]; simp only [beq_iff_eq]; exact eq_comm
  rw [this]; exact hasI l x
theorem atN (l : List Int) (x : Int) : decide (idxF (fun y => y == x) l < 0) = decide (x ∉ l) := by
  have := atM l x
  rw [Bool.eq_iff_iff, decide_eq_true_eq, decide_eq_true_eq] at this
  rw [Bool.eq_iff_iff, decide_eq_true_eq, decide_eq_true_eq, ← this]
  omega
theorem ok197 (l : List Int) (t : Bool) (x : Int) (hl : l.length ≤ 100000) : FnC Tryz.prog 197 [] [.lst 1 t (rowsI l), .int .i64 x] (.lst 1 false (rowsI (x :: l))) [] := by
  refine fn_okX (ob0 := []) [] Tryz.func197 rfl rfl rfl rfl ?_
  repeat ((conv => whnf); first | refine Cd.go ?_ | refine ⟨rfl, ?_⟩ | refine rq_dec ⟨.inl rfl, rfl⟩ ?_ | refine rq_dec rfl ?_ | refine ⟨Nat.le_of_ble_eq_true rfl, ?_⟩ | refine ⟨.inl rfl, ?_⟩ | refine ⟨fun _ => ⟨rfl, Nat.le_of_ble_eq_true rfl⟩, ?_⟩ | refine ⟨fun _ => Nat.le_of_ble_eq_true rfl, ?_⟩ | refine ⟨fun h => Bool.noConfusion h, ?_⟩)
  conv => whnf
  rw [rowsI_len]
  first | refine rq_app (by show ((1 + l.length : Nat) : Int) ≤ _; omega) (by show (1 + l.length) * 8 ≤ _; omega) ?_ | refine rq_dec ⟨by show ((1 + l.length : Nat) : Int) ≤ _; omega, by show (1 + l.length) * 8 ≤ _; omega⟩ ?_ | refine ⟨by show ((1 + l.length : Nat) : Int) ≤ _; omega, by show (1 + l.length) * 8 ≤ _; omega, ?_⟩
  repeat ((conv => whnf); first | refine Cd.go ?_ | refine ⟨rfl, ?_⟩ | refine rq_dec ⟨.inl rfl, rfl⟩ ?_ | refine rq_dec rfl ?_ | refine ⟨Nat.le_of_ble_eq_true rfl, ?_⟩ | refine ⟨.inl rfl, ?_⟩ | refine ⟨fun _ => ⟨rfl, Nat.le_of_ble_eq_true rfl⟩, ?_⟩ | refine ⟨fun _ => Nat.le_of_ble_eq_true rfl, ?_⟩ | refine ⟨fun h => Bool.noConfusion h, ?_⟩)
  conv => whnf
  refine ⟨[], trivial, rfl, trivial, rfl, ?_⟩
  try subst hk
  repeat' (first | exact trivial | rfl | exact .inl rfl | exact .inr rfl | exact id | exact (fun h => Bool.noConfusion h) | refine And.intro ?_ ?_)
  · show 0 + (1 + l.length) ≤ ([[V.int .i64 x]] ++ rowsI l).length
    rw [List.length_append, rowsI_len]; simp
  · show List.take (1 + l.length) (List.drop 0 ([[V.int .i64 x]] ++ rowsI l)) = rowsI (x :: l)
    exact take0 (by rw [List.length_append, rowsI_len]; simp)
def knownB (f : Int) : Bool := decide (1 ≤ f) && decide (f ≤ 64)
theorem ok309 (f : Int) : FnC Tryz.prog 309 [] [.int .i64 f] (.bool (knownB f)) [] := by
  refine fn_okX (ob0 := []) [] Tryz.func309 rfl rfl rfl rfl ?_
  repeat ((conv => whnf); first | refine Cd.go ?_ | refine ⟨rfl, ?_⟩ | refine rq_dec ⟨.inl rfl, rfl⟩ ?_ | refine rq_dec rfl ?_ | refine ⟨Nat.le_of_ble_eq_true rfl, ?_⟩ | refine ⟨.inl rfl, ?_⟩ | refine ⟨fun _ => ⟨rfl, Nat.le_of_ble_eq_true rfl⟩, ?_⟩ | refine ⟨fun _ => Nat.le_of_ble_eq_true rfl, ?_⟩ | refine ⟨fun h => Bool.noConfusion h, ?_⟩)
  conv => whnf
  refine ⟨[], trivial, rfl, trivial, rfl, ?_⟩
  try subst hk
  repeat' (first | exact trivial | rfl | exact .inl rfl | exact .inr rfl | exact id | exact (fun h => Bool.noConfusion h) | refine And.intro ?_ ?_)
  unfold knownB; cases decide (1 ≤ f) <;> rfl
theorem ok338 (y x : Int) : FnC Tryz.prog 338 [] [.int .i64 y, .rp 1 [.int .i64 x] 0] (.bool (y == x)) [] := by
  refine fn_okX (ob0 := []) [] Tryz.func338 rfl rfl rfl rfl ?_
  repeat ((conv => whnf); first | refine Cd.go ?_ | refine ⟨rfl, ?_⟩ | refine rq_dec ⟨.inl rfl, rfl⟩ ?_ | refine rq_dec rfl ?_ | refine ⟨Nat.le_of_ble_eq_true rfl, ?_⟩ | refine ⟨.inl rfl, ?_⟩ | refine ⟨fun _ => ⟨rfl, Nat.le_of_ble_eq_true rfl⟩, ?_⟩ | refine ⟨fun _ => Nat.le_of_ble_eq_true rfl, ?_⟩ | refine ⟨fun h => Bool.noConfusion h, ?_⟩)
  conv => whnf
  refine ⟨[], trivial, rfl, trivial, rfl, ?_⟩
  try subst hk
  repeat' (first | exact trivial | rfl | exact .inl rfl | exact .inr rfl | exact id | exact (fun h => Bool.noConfusion h) | refine And.intro ?_ ?_)
theorem call83 : Callable Tryz.prog 338 := ⟨_, Tryz.func338, rfl, rfl⟩
theorem ok91 (a b : List Int) (ta tb : Bool) (ha : (a.length : Int) < 2 ^ 62) (hb : (b.length : Int) < 2 ^ 62) : FnC Tryz.prog 91 [] [.lst 1 ta (rowsI a), .lst 1 tb (rowsI b)] (.bool (decide (a = b))) [] := by
  refine fn_okX (ob0 := []) [] Tryz.func91 rfl rfl rfl rfl ?_
  generalize hk : decide (a = b) = q
  repeat ((conv => whnf); first | refine Cd.go ?_ | refine ⟨rfl, ?_⟩ | refine rq_dec ⟨.inl rfl, rfl⟩ ?_ | refine rq_dec rfl ?_ | refine ⟨Nat.le_of_ble_eq_true rfl, ?_⟩ | refine ⟨.inl rfl, ?_⟩ | refine ⟨fun _ => ⟨rfl, Nat.le_of_ble_eq_true rfl⟩, ?_⟩ | refine ⟨fun _ => Nat.le_of_ble_eq_true rfl, ?_⟩ | refine ⟨fun h => Bool.noConfusion h, ?_⟩)
  conv => whnf
  rw [rowsI_len, rowsI_len]
  refine cq_intro (fun h1 => ?_) (fun h1 => ?_) <;> try simp only [Bool.cond_true_left, Bool.cond_false_right, Bool.not_eq_true', Bool.not_eq_false', Bool.not_not] at h1
  · have h1 : a.length ≠ b.length := by simp at h1; omega
    have : q = false := by rw [← hk, decide_eq_false_iff_not]; rintro rfl; exact h1 rfl
    subst this
    repeat ((conv => whnf); first | refine Cd.go ?_ | refine ⟨rfl, ?_⟩ | refine rq_dec ⟨.inl rfl, rfl⟩ ?_ | refine rq_dec rfl ?_ | refine ⟨Nat.le_of_ble_eq_true rfl, ?_⟩ | refine ⟨.inl rfl, ?_⟩ | refine ⟨fun _ => ⟨rfl, Nat.le_of_ble_eq_true rfl⟩, ?_⟩ | refine ⟨fun _ => Nat.le_of_ble_eq_true rfl, ?_⟩ | refine ⟨fun h => Bool.noConfusion h, ?_⟩)
    conv => whnf
    refine ⟨[], trivial, rfl, trivial, rfl, ?_⟩
    try subst hk
    repeat' (first | exact trivial | rfl | exact .inl rfl | exact .inr rfl | exact id | exact (fun h => Bool.noConfusion h) | refine And.intro ?_ ?_)
  have h1 : a.length = b.length := by simp at h1; omega
  repeat ((conv => whnf); first | refine Cd.go ?_ | refine ⟨rfl, ?_⟩ | refine rq_dec ⟨.inl rfl, rfl⟩ ?_ | refine rq_dec rfl ?_ | refine ⟨Nat.le_of_ble_eq_true rfl, ?_⟩ | refine ⟨.inl rfl, ?_⟩ | refine ⟨fun _ => ⟨rfl, Nat.le_of_ble_eq_true rfl⟩, ?_⟩ | refine ⟨fun _ => Nat.le_of_ble_eq_true rfl, ?_⟩ | refine ⟨fun h => Bool.noConfusion h, ?_⟩)
  conv => whnf
  refine ⟨Nat, fun i => i ≤ a.length ∧ ∀ j (h : j < a.length) (h' : j < b.length), j < i → a[j] = b[j], fun i => ⟨[(0, ⟨[], true, .lst 1 ta (rowsI a)⟩), (1, ⟨[], true, .lst 1 tb (rowsI b)⟩), (5, ⟨[], true, .int .i64 (i : Int)⟩)], [], 0⟩, fun i => a.length - i, ⟨0, ⟨by omega, fun j _ _ h => by omega⟩, ?_⟩, fun i hI => ?_⟩
  · refine viewI [] rfl rfl ?_ rfl ?_ rfl ?_
    repeat' (first | exact trivial | rfl | exact .inl rfl | exact .inr rfl | exact id | exact (fun h => Bool.noConfusion h) | refine And.intro ?_ ?_)
  obtain ⟨hI1, hI2⟩ := hI
  repeat ((conv => whnf); first | refine Cd.go ?_ | refine ⟨rfl, ?_⟩ | refine rq_dec ⟨.inl rfl, rfl⟩ ?_ | refine rq_dec rfl ?_ | refine ⟨Nat.le_of_ble_eq_true rfl, ?_⟩ | refine ⟨.inl rfl, ?_⟩ | refine ⟨fun _ => ⟨rfl, Nat.le_of_ble_eq_true rfl⟩, ?_⟩ | refine ⟨fun _ => Nat.le_of_ble_eq_true rfl, ?_⟩ | refine ⟨fun h => Bool.noConfusion h, ?_⟩)
  conv => whnf
  rw [rowsI_len]
  refine cq_intro (fun h2 => ?_) (fun h2 => ?_) <;> try simp only [Bool.cond_true_left, Bool.cond_false_right, Bool.not_eq_true', Bool.not_eq_false', Bool.not_not] at h2
  · have h2 : i < a.length := by simp at h2; omega
    have h2' : i < b.length := by omega
    repeat ((conv => whnf); first | refine Cd.go ?_ | refine ⟨rfl, ?_⟩ | refine rq_dec ⟨.inl rfl, rfl⟩ ?_ | refine rq_dec rfl ?_ | refine ⟨Nat.le_of_ble_eq_true rfl, ?_⟩ | refine ⟨.inl rfl, ?_⟩ | refine ⟨fun _ => ⟨rfl, Nat.le_of_ble_eq_true rfl⟩, ?_⟩ | refine ⟨fun _ => Nat.le_of_ble_eq_true rfl, ?_⟩ | refine ⟨fun h => Bool.noConfusion h, ?_⟩)
    conv => whnf
    first | refine rq_dec (⟨rfl, by omega, by rw [rowsI_len]; omega⟩) ?_ | refine gq_dec (fun _ => ⟨rfl, by omega, by rw [rowsI_len]; omega⟩) ?_ | refine ⟨fun _ => ⟨rfl, by omega, by rw [rowsI_len]; omega⟩, ?_⟩
    rw [Int.toNat_natCast, rowsI_get a i h2]
    repeat ((conv => whnf); first | refine Cd.go ?_ | refine ⟨rfl, ?_⟩ | refine rq_dec ⟨.inl rfl, rfl⟩ ?_ | refine rq_dec rfl ?_ | refine ⟨Nat.le_of_ble_eq_true rfl, ?_⟩ | refine ⟨.inl rfl, ?_⟩ | refine ⟨fun _ => ⟨rfl, Nat.le_of_ble_eq_true rfl⟩, ?_⟩ | refine ⟨fun _ => Nat.le_of_ble_eq_true rfl, ?_⟩ | refine ⟨fun h => Bool.noConfusion h, ?_⟩)
    conv => whnf
    first | refine rq_dec (⟨rfl, by omega, by rw [rowsI_len]; omega⟩) ?_ | refine gq_dec (fun _ => ⟨rfl, by omega, by rw [rowsI_len]; omega⟩) ?_ | refine ⟨fun _ => ⟨rfl, by omega, by rw [rowsI_len]; omega⟩, ?_⟩
    rw [Int.toNat_natCast, rowsI_get b i h2']
    repeat ((conv => whnf); first | refine Cd.go ?_ | refine ⟨rfl, ?_⟩ | refine rq_dec ⟨.inl rfl, rfl⟩ ?_ | refine rq_dec rfl ?_ | refine ⟨Nat.le_of_ble_eq_true rfl, ?_⟩ | refine ⟨.inl rfl, ?_⟩ | refine ⟨fun _ => ⟨rfl, Nat.le_of_ble_eq_true rfl⟩, ?_⟩ | refine ⟨fun _ => Nat.le_of_ble_eq_true rfl, ?_⟩ | refine ⟨fun h => Bool.noConfusion h, ?_⟩)
    conv => whnf
    refine cq_intro (fun h3 => ?_) (fun h3 => ?_) <;> try simp only [Bool.cond_true_left, Bool.cond_false_right, Bool.not_eq_true', Bool.not_eq_false', Bool.not_not] at h3
    · have : q = false := by rw [← hk, decide_eq_false_iff_not]; rintro rfl; simp at h3
      subst this
      repeat ((conv => whnf); first | refine Cd.go ?_ | refine ⟨rfl, ?_⟩ | refine rq_dec ⟨.inl rfl, rfl⟩ ?_ | refine rq_dec rfl ?_ | refine ⟨Nat.le_of_ble_eq_true rfl, ?_⟩ | refine ⟨.inl rfl, ?_⟩ | refine ⟨fun _ => ⟨rfl, Nat.le_of_ble_eq_true rfl⟩, ?_⟩ | refine ⟨fun _ => Nat.le_of_ble_eq_true rfl, ?_⟩ | refine ⟨fun h => Bool.noConfusion h, ?_⟩)
      conv => whnf
      refine ⟨[], trivial, rfl, trivial, rfl, ?_⟩
      try subst hk
      repeat' (first | exact trivial | rfl | exact .inl rfl | exact .inr rfl | exact id | exact (fun h => Bool.noConfusion h) | refine And.intro ?_ ?_)
    have h3 : a[i] = b[i] := by simpa using h3
    repeat ((conv => whnf); first | refine Cd.go ?_ | refine ⟨rfl, ?_⟩ | refine rq_dec ⟨.inl rfl, rfl⟩ ?_ | refine rq_dec rfl ?_ | refine ⟨Nat.le_of_ble_eq_true rfl, ?_⟩ | refine ⟨.inl rfl, ?_⟩ | refine ⟨fun _ => ⟨rfl, Nat.le_of_ble_eq_true rfl⟩, ?_⟩ | refine ⟨fun _ => Nat.le_of_ble_eq_true rfl, ?_⟩ | refine ⟨fun h => Bool.noConfusion h, ?_⟩)
    conv => whnf
    rw [wrapI (n := (i : Int) + 1) (by omega) (by omega), show ((i : Int) + 1) = ((i + 1 : Nat) : Int) by omega]
    refine ⟨i + 1, ⟨by omega, fun j h h' hj => ?_⟩, ?_, by show a.length - (i + 1) < a.length - i; omega⟩
    · by_cases e : j = i
      · subst e; exact h3
      · exact hI2 j h h' (by omega)
    refine viewI [] rfl rfl ?_ rfl ?_ rfl ?_
    repeat' (first | exact trivial | rfl | exact .inl rfl | exact .inr rfl | exact id | exact (fun h => Bool.noConfusion h) | refine And.intro ?_ ?_)
  have h2 : i = a.length := by simp at h2; omega
  have : q = true := by
    rw [← hk, decide_eq_true_eq]
    exact List.ext_getElem h1 fun j h h' => hI2 j h h' (by omega)
  subst this
  repeat ((conv => whnf); first | refine Cd.go ?_ | refine ⟨rfl, ?_⟩ | refine rq_dec ⟨.inl rfl, rfl⟩ ?_ | refine rq_dec rfl ?_ | refine ⟨Nat.le_of_ble_eq_true rfl, ?_⟩ | refine ⟨.inl rfl, ?_⟩ | refine ⟨fun _ => ⟨rfl, Nat.le_of_ble_eq_true rfl⟩, ?_⟩ | refine ⟨fun _ => Nat.le_of_ble_eq_true rfl, ?_⟩ | refine ⟨fun h => Bool.noConfusion h, ?_⟩)
  conv => whnf
  refine ⟨[], trivial, rfl, trivial, rfl, ?_⟩
  try subst hk
  repeat' (first | exact trivial | rfl | exact .inl rfl | exact .inr rfl | exact id | exact (fun h => Bool.noConfusion h) | refine And.intro ?_ ?_)
end Go.Proofs.YtmhapcbjjpadnaaGreat

set_option maxRecDepth 40000
namespace Go.Proofs.YtmhapcbjjpadnaaGreat
open Go Go.Sk Go.RowKit

theorem wo_len (l : List Int) (x : Int) : (wo l x).length ≤ l.length := List.length_filter_le _ _
theorem wo_keep {l : List Int} {x : Int} {i : Nat} (h : i < l.length) (hx : l[i] ≠ x) : wo (l.take (i + 1)) x = wo (l.take i) x ++ [l[i]] := by
  rw [List.take_succ_eq_append_getElem h, wo, wo, List.filter_append]
  simp [hx]
theorem wo_skip {l : List Int} {x : Int} {i : Nat} (h : i < l.length) (hx : l[i] = x) : wo (l.take (i + 1)) x = wo (l.take i) x := by
  rw [List.take_succ_eq_append_getElem h, wo, wo, List.filter_append]
  simp [hx]
theorem wo_none {l : List Int} {x : Int} (h : x ∉ l) : wo l x = l := by
  rw [wo, List.filter_eq_self]
  intro y hy
  simp only [bne_iff_ne]
  rintro rfl; exact h hy
theorem wo_take_len (l : List Int) (x : Int) (i : Nat) : (wo (l.take i) x).length ≤ i := Nat.le_trans (wo_len _ _) (by simp; omega)
end Go.Proofs.YtmhapcbjjpadnaaGreat

set_option maxRecDepth 40000
namespace Go.Proofs.YtmhapcbjjpadnaaGreat
open Go Go.Sk Go.RowKit

structure DelI (l : List Int) (x : Int) (j : Nat) (R : List Int) : Prop where
  le : j ≤ l.length
  len : R.length = l.length
  kept : R.take (wo (l.take j) x).length = wo (l.take j) x
  rest : R.drop j = l.drop j
theorem DelI.getj {l : List Int} {x : Int} {j : Nat} {R : List Int} (h : DelI l x j R) (hj : j < l.length) : R[j]'(by rw [h.len]; exact hj) = l[j] := by
  have h1 : (R.drop j)[0]? = (l.drop j)[0]? := by rw [h.rest]
  rw [List.getElem?_drop, List.getElem?_drop, Nat.add_zero, List.getElem?_eq_getElem hj, List.getElem?_eq_getElem (by rw [h.len]; exact hj)] at h1
  exact Option.some.inj h1
theorem drop_next {R l : List Int} {j : Nat} (h : R.drop j = l.drop j) : R.drop (j + 1) = l.drop (j + 1) := by
  rw [← List.drop_drop, ← List.drop_drop, h]
theorem DelI.skip {l : List Int} {x : Int} {j : Nat} {R : List Int} (h : DelI l x j R) (hj : j < l.length) (hx : l[j] = x) : DelI l x (j + 1) R := by
  have e := wo_skip (x := x) hj hx
  exact ⟨by omega, h.len, by rw [e]; exact h.kept, drop_next h.rest⟩
theorem DelI.keep {l : List Int} {x : Int} {j : Nat} {R : List Int} (h : DelI l x j R) (hj : j < l.length) (hx : l[j] ≠ x) : DelI l x (j + 1) (R.set (wo (l.take j) x).length l[j]) := by
  have e := wo_keep (x := x) hj hx
  have hle := wo_take_len l x j
  have hk := h.kept
  have hlen := h.len
  first | refine rq_dec (by omega) (rq_app (by rw [List.length_set]; exact h.len) (?_) ?_) | refine rq_dec ⟨by omega, by rw [List.length_set]; exact h.len, ?_⟩ ?_ | refine ⟨by omega, by rw [List.length_set]; exact h.len, ?_, ?_⟩
  · rw [e, List.length_append, List.length_singleton]
    generalize wo (l.take j) x = K at hk hle ⊢
    rw [List.take_succ_eq_append_getElem (by rw [List.length_set]; omega), List.getElem_set_self, List.take_set_of_le (Nat.le_refl _), hk]
  · rw [List.drop_set_of_lt (by omega)]
    exact drop_next h.rest
theorem DelI.start {l : List Int} {x : Int} {n : Nat} (hn : n < l.length) (hx : l[n] = x) (hb : ∀ j (hj : j < n), l[j]'(by omega) ≠ x) : DelI l x (n + 1) l ∧ (wo (l.take (n + 1)) x).length = n := by
  have e := wo_skip (x := x) hn hx
  have e2 : wo (l.take n) x = l.take n := wo_none fun hm => by
    obtain ⟨j, hj, he⟩ := List.getElem_of_mem hm
    rw [List.length_take] at hj
    rw [List.getElem_take] at he
    exact hb j (by omega) he
  have e3 : (l.take n).length = n := by rw [List.length_take]; omega
  rw [e, e2]
  refine ⟨⟨by omega, rfl, ?_, rfl⟩, e3⟩
  rw [e, e2, e3]
theorem zrep (k : Nat) : List.replicate k [V.int .i64 0] = rowsI (List.replicate k 0) := by rw [rowsI, List.map_replicate]
set_option maxRecDepth 20000 in
set_option maxHeartbeats 1000000 in
theorem ok337 (l : List Int) (x : Int) (hl : l.length ≤ 100000) : FnC Tryz.prog 337 [.row 1 (rowsI l), .box [.int .i64 x]] [.sl 0 0 l.length, .fn 338 [.ptr 1 0 0]] (.sl 0 0 (wo l x).length)
    [.row 1 (rowsI (wo l x ++ List.replicate (l.length - (wo l x).length) 0)), .box [.int .i64 x]] := by
  refine fn_okX (ob0 := [.row 1 (rowsI l), .box [.int .i64 x]]) [] Tryz.func337 rfl rfl rfl rfl ?_
  generalize hk : wo l x = q
  have p83 : FnC Tryz.prog 358 [] [.lst 1 false (rowsI l), .fn 338 [.rp 1 [.int .i64 x] 0]] (.int .i64 (idxF (fun y => y == x) l)) [] := ok358 l false 338 [.rp 1 [.int .i64 x] 0] (fun y => y == x) call83 rfl (fun y _ => ok338 y x) (by omega)
  have ht0 : ((rowsI l).drop 0).take l.length = rowsI l := take0 (rowsI_len l)
  have key : FnC Tryz.prog 358 [] [.lst 1 false (((rowsI l).drop 0).take l.length), .fn 338 [.rp 1 [.int .i64 x] 0]] (.int .i64 (idxF (fun y => y == x) l)) [] := by rw [ht0]; exact p83
  repeat ((conv => whnf); first | refine Cd.go ?_ | refine ⟨rfl, ?_⟩ | refine rq_dec ⟨.inl rfl, rfl⟩ ?_ | refine rq_dec rfl ?_ | refine ⟨Nat.le_of_ble_eq_true rfl, ?_⟩ | refine ⟨.inl rfl, ?_⟩ | refine ⟨fun _ => ⟨rfl, Nat.le_of_ble_eq_true rfl⟩, ?_⟩ | refine ⟨fun _ => Nat.le_of_ble_eq_true rfl, ?_⟩ | refine ⟨fun h => Bool.noConfusion h, ?_⟩)
  conv => whnf
  refine .inl ⟨_, fun _ => ⟨?_, key⟩, .inr rfl, ?_⟩
  · intro v hv
    have hv : v ∈ [V.sl 0 0 l.length, V.fn 338 [V.ptr 1 0 0]] := hv
    rcases List.mem_cons.1 hv with rfl | hv
    · show 0 + l.length ≤ (rowsI l).length
      rw [rowsI_len]; omega
    · obtain rfl := List.mem_singleton.1 hv
      intro c hc
      obtain rfl := List.mem_singleton.1 hc
      exact ⟨rfl, rfl⟩
  repeat ((conv => whnf); first | refine Cd.go ?_ | refine ⟨rfl, ?_⟩ | refine rq_dec ⟨.inl rfl, rfl⟩ ?_ | refine rq_dec rfl ?_ | refine ⟨Nat.le_of_ble_eq_true rfl, ?_⟩ | refine ⟨.inl rfl, ?_⟩ | refine ⟨fun _ => ⟨rfl, Nat.le_of_ble_eq_true rfl⟩, ?_⟩ | refine ⟨fun _ => Nat.le_of_ble_eq_true rfl, ?_⟩ | refine ⟨fun h => Bool.noConfusion h, ?_⟩)
  conv => whnf
  refine cq_intro (fun h1 => ?_) (fun h1 => ?_) <;> try simp only [Bool.cond_true_left, Bool.cond_false_right, Bool.not_eq_true', Bool.not_eq_false', Bool.not_not] at h1
  · have h1 : idxF (fun y => y == x) l = -1 := by simpa using h1
    have hno : x ∉ l := fun hm => by
      have := (idxF_neg (fun y => y == x) l).1 (by omega) x hm
      simp at this
    rw [wo_none hno] at hk
    subst hk
    repeat ((conv => whnf); first | refine Cd.go ?_ | refine ⟨rfl, ?_⟩ | refine rq_dec ⟨.inl rfl, rfl⟩ ?_ | refine rq_dec rfl ?_ | refine ⟨Nat.le_of_ble_eq_true rfl, ?_⟩ | refine ⟨.inl rfl, ?_⟩ | refine ⟨fun _ => ⟨rfl, Nat.le_of_ble_eq_true rfl⟩, ?_⟩ | refine ⟨fun _ => Nat.le_of_ble_eq_true rfl, ?_⟩ | refine ⟨fun h => Bool.noConfusion h, ?_⟩)
    conv => whnf
    try subst hk
    refine ⟨[some 0, some 1], ?_, rfl, ?_, rfl, ?_⟩
    all_goals repeat' (first | exact trivial | rfl | exact .inl rfl | exact .inr rfl | exact id | exact (fun h => Bool.noConfusion h) | refine And.intro ?_ ?_)
    rw [Nat.sub_self, List.replicate_zero, List.append_nil]
  have h1 : idxF (fun y => y == x) l ≠ -1 := by simpa using h1
  have hge := (idxF_in (fun y => y == x) l).1
  obtain ⟨n, hn, hin, hx, hb⟩ := idxF_spec (fun y => y == x) l (by omega)
  rw [hin]
  have hx : l[n] = x := by simpa using hx
  obtain ⟨hD, hDl⟩ := DelI.start hn hx fun j hj => by simpa using hb j hj
  have hn1 : IntKind.i64.wrap ((n : Int) + 1) = ((n + 1 : Nat) : Int) := by rw [wrapI (by omega) (by omega)]; omega
  repeat ((conv => whnf); first | refine Cd.go ?_ | refine ⟨rfl, ?_⟩ | refine rq_dec ⟨.inl rfl, rfl⟩ ?_ | refine rq_dec rfl ?_ | refine ⟨Nat.le_of_ble_eq_true rfl, ?_⟩ | refine ⟨.inl rfl, ?_⟩ | refine ⟨fun _ => ⟨rfl, Nat.le_of_ble_eq_true rfl⟩, ?_⟩ | refine ⟨fun _ => Nat.le_of_ble_eq_true rfl, ?_⟩ | refine ⟨fun h => Bool.noConfusion h, ?_⟩)
  conv => whnf
  rw [hn1]
  refine ⟨Nat × List Int, fun p => DelI l x p.1 p.2, fun p => ⟨[(0, ⟨[], true, .sl 0 0 l.length⟩), (1, ⟨[], true, .fn 338 [.ptr 1 0 0]⟩), (5, ⟨[], true, .int .i64 ((wo (l.take p.1) x).length : Int)⟩), (6, ⟨[], true, .int .i64 (p.1 : Int)⟩)], [(0, .row 1 (rowsI p.2)), (1, .box [.int .i64 x])], 2⟩, fun p => l.length - p.1, ⟨(n + 1, l), hD, ?_⟩, fun p hp => ?_⟩
  · refine viewI [some 0, some 1] rfl rfl ?_ rfl ?_ rfl ?_
    repeat' (first | exact trivial | rfl | exact .inl rfl | exact .inr rfl | exact id | exact (fun h => Bool.noConfusion h) | refine And.intro ?_ ?_)
    show (n : Int) = ((wo (l.take (n + 1)) x).length : Int)
    rw [hDl]
  obtain ⟨j, R⟩ := p
  have hp : DelI l x j R := hp
  dsimp only
  have hle := hp.le
  have hlen := hp.len
  have hwl := wo_take_len l x j
  repeat ((conv => whnf); first | refine Cd.go ?_ | refine ⟨rfl, ?_⟩ | refine rq_dec ⟨.inl rfl, rfl⟩ ?_ | refine rq_dec rfl ?_ | refine ⟨Nat.le_of_ble_eq_true rfl, ?_⟩ | refine ⟨.inl rfl, ?_⟩ | refine ⟨fun _ => ⟨rfl, Nat.le_of_ble_eq_true rfl⟩, ?_⟩ | refine ⟨fun _ => Nat.le_of_ble_eq_true rfl, ?_⟩ | refine ⟨fun h => Bool.noConfusion h, ?_⟩)
  conv => whnf
  refine cq_intro (fun h2 => ?_) (fun h2 => ?_) <;> try simp only [Bool.cond_true_left, Bool.cond_false_right, Bool.not_eq_true', Bool.not_eq_false', Bool.not_not] at h2
  · have h2 : j < l.length := by simp at h2; omega
    have hj1 : IntKind.i64.wrap ((j : Int) + 1) = ((j + 1 : Nat) : Int) := by rw [wrapI (by omega) (by omega)]; omega
    have hRj := hp.getj h2
    have hskip := fun h => hp.skip h2 h
    have hkeep := fun h => hp.keep h2 h
    have ws := wo_skip (x := x) h2
    have wk := wo_keep (x := x) h2
    repeat ((conv => whnf); first | refine Cd.go ?_ | refine ⟨rfl, ?_⟩ | refine rq_dec ⟨.inl rfl, rfl⟩ ?_ | refine rq_dec rfl ?_ | refine ⟨Nat.le_of_ble_eq_true rfl, ?_⟩ | refine ⟨.inl rfl, ?_⟩ | refine ⟨fun _ => ⟨rfl, Nat.le_of_ble_eq_true rfl⟩, ?_⟩ | refine ⟨fun _ => Nat.le_of_ble_eq_true rfl, ?_⟩ | refine ⟨fun h => Bool.noConfusion h, ?_⟩)
    conv => whnf
    first | refine rq_dec (⟨by omega, by omega⟩) ?_ | refine gq_dec (fun _ => ⟨by omega, by omega⟩) ?_ | refine ⟨fun _ => ⟨by omega, by omega⟩, ?_⟩
    repeat ((conv => whnf); first | refine Cd.go ?_ | refine ⟨rfl, ?_⟩ | refine rq_dec ⟨.inl rfl, rfl⟩ ?_ | refine rq_dec rfl ?_ | refine ⟨Nat.le_of_ble_eq_true rfl, ?_⟩ | refine ⟨.inl rfl, ?_⟩ | refine ⟨fun _ => ⟨rfl, Nat.le_of_ble_eq_true rfl⟩, ?_⟩ | refine ⟨fun _ => Nat.le_of_ble_eq_true rfl, ?_⟩ | refine ⟨fun h => Bool.noConfusion h, ?_⟩)
    conv => whnf
    first | refine rq_dec (by rw [rowsI_len, Int.toNat_natCast]; omega) ?_ | refine gq_dec (fun _ => by rw [rowsI_len, Int.toNat_natCast]; omega) ?_ | refine ⟨fun _ => by rw [rowsI_len, Int.toNat_natCast]; omega, ?_⟩
    repeat ((conv => whnf); first | refine Cd.go ?_ | refine ⟨rfl, ?_⟩ | refine rq_dec ⟨.inl rfl, rfl⟩ ?_ | refine rq_dec rfl ?_ | refine ⟨Nat.le_of_ble_eq_true rfl, ?_⟩ | refine ⟨.inl rfl, ?_⟩ | refine ⟨fun _ => ⟨rfl, Nat.le_of_ble_eq_true rfl⟩, ?_⟩ | refine ⟨fun _ => Nat.le_of_ble_eq_true rfl, ?_⟩ | refine ⟨fun h => Bool.noConfusion h, ?_⟩)
    conv => whnf
    rw [Nat.zero_add, Int.toNat_natCast, rowsI_get R j (by omega), hRj]
    repeat ((conv => whnf); first | refine Cd.go ?_ | refine ⟨rfl, ?_⟩ | refine rq_dec ⟨.inl rfl, rfl⟩ ?_ | refine rq_dec rfl ?_ | refine ⟨Nat.le_of_ble_eq_true rfl, ?_⟩ | refine ⟨.inl rfl, ?_⟩ | refine ⟨fun _ => ⟨rfl, Nat.le_of_ble_eq_true rfl⟩, ?_⟩ | refine ⟨fun _ => Nat.le_of_ble_eq_true rfl, ?_⟩ | refine ⟨fun h => Bool.noConfusion h, ?_⟩)
    conv => whnf
    refine ⟨call83, .inl ⟨.bool (l[j] == x), fun _ => ⟨?_, ok338 l[j] x⟩, .inr rfl, ?_⟩⟩
    · intro v hv
      have hv : v ∈ [V.int .i64 l[j], V.ptr 1 0 0] := hv
      rcases List.mem_cons.1 hv with rfl | hv
      · exact trivial
      · obtain rfl := List.mem_singleton.1 hv
        exact ⟨rfl, rfl⟩
    repeat ((conv => whnf); first | refine Cd.go ?_ | refine ⟨rfl, ?_⟩ | refine rq_dec ⟨.inl rfl, rfl⟩ ?_ | refine rq_dec rfl ?_ | refine ⟨Nat.le_of_ble_eq_true rfl, ?_⟩ | refine ⟨.inl rfl, ?_⟩ | refine ⟨fun _ => ⟨rfl, Nat.le_of_ble_eq_true rfl⟩, ?_⟩ | refine ⟨fun _ => Nat.le_of_ble_eq_true rfl, ?_⟩ | refine ⟨fun h => Bool.noConfusion h, ?_⟩)
    conv => whnf
    refine cq_intro (fun h3 => ?_) (fun h3 => ?_) <;> try simp only [Bool.cond_true_left, Bool.cond_false_right, Bool.not_eq_true', Bool.not_eq_false', Bool.not_not] at h3
    · have h3 : l[j] ≠ x := by simpa using h3
      have hkeep := hkeep h3
      have wk := wk h3
      generalize wo (l.take j) x = K at hkeep wk hwl ⊢
      repeat ((conv => whnf); first | refine Cd.go ?_ | refine ⟨rfl, ?_⟩ | refine rq_dec ⟨.inl rfl, rfl⟩ ?_ | refine rq_dec rfl ?_ | refine ⟨Nat.le_of_ble_eq_true rfl, ?_⟩ | refine ⟨.inl rfl, ?_⟩ | refine ⟨fun _ => ⟨rfl, Nat.le_of_ble_eq_true rfl⟩, ?_⟩ | refine ⟨fun _ => Nat.le_of_ble_eq_true rfl, ?_⟩ | refine ⟨fun h => Bool.noConfusion h, ?_⟩)
      conv => whnf
      first | refine rq_dec (⟨by omega, by omega⟩) ?_ | refine gq_dec (fun _ => ⟨by omega, by omega⟩) ?_ | refine ⟨fun _ => ⟨by omega, by omega⟩, ?_⟩
      repeat ((conv => whnf); first | refine Cd.go ?_ | refine ⟨rfl, ?_⟩ | refine rq_dec ⟨.inl rfl, rfl⟩ ?_ | refine rq_dec rfl ?_ | refine ⟨Nat.le_of_ble_eq_true rfl, ?_⟩ | refine ⟨.inl rfl, ?_⟩ | refine ⟨fun _ => ⟨rfl, Nat.le_of_ble_eq_true rfl⟩, ?_⟩ | refine ⟨fun _ => Nat.le_of_ble_eq_true rfl, ?_⟩ | refine ⟨fun h => Bool.noConfusion h, ?_⟩)
      conv => whnf
      first | refine rq_dec (by rw [rowsI_len, Int.toNat_natCast]; omega) ?_ | refine ⟨by rw [rowsI_len, Int.toNat_natCast]; omega, ?_⟩
      repeat ((conv => whnf); first | refine Cd.go ?_ | refine ⟨rfl, ?_⟩ | refine rq_dec ⟨.inl rfl, rfl⟩ ?_ | refine rq_dec rfl ?_ | refine ⟨Nat.le_of_ble_eq_true rfl, ?_⟩ | refine ⟨.inl rfl, ?_⟩ | refine ⟨fun _ => ⟨rfl, Nat.le_of_ble_eq_true rfl⟩, ?_⟩ | refine ⟨fun _ => Nat.le_of_ble_eq_true rfl, ?_⟩ | refine ⟨fun h => Bool.noConfusion h, ?_⟩)
      conv => whnf
      rw [hj1, wrapI (n := (K.length : Int) + 1) (by omega) (by omega)]
      refine ⟨(j + 1, R.set K.length l[j]), hkeep, ?_, by show l.length - (j + 1) < l.length - j; omega⟩
      refine viewI [some 0, some 1] rfl rfl ?_ rfl ?_ rfl ?_
      repeat' (first | exact trivial | rfl | exact .inl rfl | exact .inr rfl | exact id | exact (fun h => Bool.noConfusion h) | refine And.intro ?_ ?_)
      · rw [Nat.zero_add, Int.toNat_natCast, rowsI_get R K.length (by omega), rowsI, rowsI, List.map_set]
        rfl
      · show (K.length : Int) + 1 = ((wo (l.take (j + 1)) x).length : Int)
        rw [wk, List.length_append, List.length_singleton]; omega
    have h3 : l[j] = x := by simpa using h3
    have hskip := hskip h3
    have ws := ws h3
    repeat ((conv => whnf); first | refine Cd.go ?_ | refine ⟨rfl, ?_⟩ | refine rq_dec ⟨.inl rfl, rfl⟩ ?_ | refine rq_dec rfl ?_ | refine ⟨Nat.le_of_ble_eq_true rfl, ?_⟩ | refine ⟨.inl rfl, ?_⟩ | refine ⟨fun _ => ⟨rfl, Nat.le_of_ble_eq_true rfl⟩, ?_⟩ | refine ⟨fun _ => Nat.le_of_ble_eq_true rfl, ?_⟩ | refine ⟨fun h => Bool.noConfusion h, ?_⟩)
    conv => whnf
    rw [hj1]
    refine ⟨(j + 1, R), hskip, ?_, by show l.length - (j + 1) < l.length - j; omega⟩
    dsimp only
    rw [ws]
    refine viewI [some 0, some 1] rfl rfl ?_ rfl ?_ rfl ?_
    repeat' (first | exact trivial | rfl | exact .inl rfl | exact .inr rfl | exact id | exact (fun h => Bool.noConfusion h) | refine And.intro ?_ ?_)
  have h2 : j = l.length := by simp at h2; omega
  subst h2
  have hkept := hp.kept
  rw [List.take_length, hk] at hkept hwl ⊢
  repeat ((conv => whnf); first | refine Cd.go ?_ | refine ⟨rfl, ?_⟩ | refine rq_dec ⟨.inl rfl, rfl⟩ ?_ | refine rq_dec rfl ?_ | refine ⟨Nat.le_of_ble_eq_true rfl, ?_⟩ | refine ⟨.inl rfl, ?_⟩ | refine ⟨fun _ => ⟨rfl, Nat.le_of_ble_eq_true rfl⟩, ?_⟩ | refine ⟨fun _ => Nat.le_of_ble_eq_true rfl, ?_⟩ | refine ⟨fun h => Bool.noConfusion h, ?_⟩)
  conv => whnf
  first | refine rq_dec (⟨by omega, by omega, by omega⟩) ?_ | refine gq_dec (fun _ => ⟨by omega, by omega, by omega⟩) ?_ | refine ⟨fun _ => ⟨by omega, by omega, by omega⟩, ?_⟩
  repeat ((conv => whnf); first | refine Cd.go ?_ | refine ⟨rfl, ?_⟩ | refine rq_dec ⟨.inl rfl, rfl⟩ ?_ | refine rq_dec rfl ?_ | refine ⟨Nat.le_of_ble_eq_true rfl, ?_⟩ | refine ⟨.inl rfl, ?_⟩ | refine ⟨fun _ => ⟨rfl, Nat.le_of_ble_eq_true rfl⟩, ?_⟩ | refine ⟨fun _ => Nat.le_of_ble_eq_true rfl, ?_⟩ | refine ⟨fun h => Bool.noConfusion h, ?_⟩)
  conv => whnf
  have e1 : ((l.length : Int)).toNat - ((q.length : Int)).toNat = l.length - q.length := by omega
  first | refine rq_dec (by rw [rowsI_len]; omega) ?_ | refine ⟨by rw [rowsI_len]; omega, ?_⟩
  repeat ((conv => whnf); first | refine Cd.go ?_ | refine ⟨rfl, ?_⟩ | refine rq_dec ⟨.inl rfl, rfl⟩ ?_ | refine rq_dec rfl ?_ | refine ⟨Nat.le_of_ble_eq_true rfl, ?_⟩ | refine ⟨.inl rfl, ?_⟩ | refine ⟨fun _ => ⟨rfl, Nat.le_of_ble_eq_true rfl⟩, ?_⟩ | refine ⟨fun _ => Nat.le_of_ble_eq_true rfl, ?_⟩ | refine ⟨fun h => Bool.noConfusion h, ?_⟩)
  conv => whnf
  first | refine rq_dec (⟨by omega, by omega, by omega⟩) ?_ | refine gq_dec (fun _ => ⟨by omega, by omega, by omega⟩) ?_ | refine ⟨fun _ => ⟨by omega, by omega, by omega⟩, ?_⟩
  repeat ((conv => whnf); first | refine Cd.go ?_ | refine ⟨rfl, ?_⟩ | refine rq_dec ⟨.inl rfl, rfl⟩ ?_ | refine rq_dec rfl ?_ | refine ⟨Nat.le_of_ble_eq_true rfl, ?_⟩ | refine ⟨.inl rfl, ?_⟩ | refine ⟨fun _ => ⟨rfl, Nat.le_of_ble_eq_true rfl⟩, ?_⟩ | refine ⟨fun _ => Nat.le_of_ble_eq_true rfl, ?_⟩ | refine ⟨fun h => Bool.noConfusion h, ?_⟩)
  conv => whnf
  try subst hk
  refine ⟨[some 0, some 1], ?_, rfl, ?_, rfl, ?_⟩
  all_goals repeat' (first | exact trivial | rfl | exact .inl rfl | exact .inr rfl | exact id | exact (fun h => Bool.noConfusion h) | refine And.intro ?_ ?_)
  have e2 : (0 + ((wo l x).length : Int).toNat) = (wo l x).length := by omega
  rw [e1, e2, zrep, rowsI, rowsI, rowsI, List.drop_of_length_le (by rw [List.length_map]; omega), List.append_nil, List.map_append, ← List.map_take, hkept]
set_option maxRecDepth 20000 in
theorem ok288 (l : List Int) (t : Bool) (x : Int) (hl : l.length ≤ 100000) : FnC Tryz.prog 288 [] [.lst 1 t (rowsI l), .int .i64 x] (.lst 1 false (rowsI (wo l x))) [] := by
  refine fn_okX (ob0 := []) [] Tryz.func288 rfl rfl rfl rfl ?_
  generalize hk : wo l x = q
  have hwl := wo_len l x
  repeat ((conv => whnf); first | refine Cd.go ?_ | refine ⟨rfl, ?_⟩ | refine rq_dec ⟨.inl rfl, rfl⟩ ?_ | refine rq_dec rfl ?_ | refine ⟨Nat.le_of_ble_eq_true rfl, ?_⟩ | refine ⟨.inl rfl, ?_⟩ | refine ⟨fun _ => ⟨rfl, Nat.le_of_ble_eq_true rfl⟩, ?_⟩ | refine ⟨fun _ => Nat.le_of_ble_eq_true rfl, ?_⟩ | refine ⟨fun h => Bool.noConfusion h, ?_⟩)
  conv => whnf
  refine .inr ⟨fun _ => ⟨[], _, _, _, ok107 (rowsI l) t (by rw [rowsI_len]; omega), trivial, rfl, rfl, rfl, ?_⟩, (by intro h; cases h)⟩
  rw [rowsI_len]
  repeat ((conv => whnf); first | refine Cd.go ?_ | refine ⟨rfl, ?_⟩ | refine rq_dec ⟨.inl rfl, rfl⟩ ?_ | refine rq_dec rfl ?_ | refine ⟨Nat.le_of_ble_eq_true rfl, ?_⟩ | refine ⟨.inl rfl, ?_⟩ | refine ⟨fun _ => ⟨rfl, Nat.le_of_ble_eq_true rfl⟩, ?_⟩ | refine ⟨fun _ => Nat.le_of_ble_eq_true rfl, ?_⟩ | refine ⟨fun h => Bool.noConfusion h, ?_⟩)
  conv => whnf
  refine .inr ⟨fun _ => ⟨[1, 0], _, _, _, ok337 l x hl, ⟨rfl, rfl, trivial⟩, rfl, rfl, rfl, ?_⟩, (by intro h; cases h)⟩
  rw [hk] at hwl ⊢
  repeat ((conv => whnf); first | refine Cd.go ?_ | refine ⟨rfl, ?_⟩ | refine rq_dec ⟨.inl rfl, rfl⟩ ?_ | refine rq_dec rfl ?_ | refine ⟨Nat.le_of_ble_eq_true rfl, ?_⟩ | refine ⟨.inl rfl, ?_⟩ | refine ⟨fun _ => ⟨rfl, Nat.le_of_ble_eq_true rfl⟩, ?_⟩ | refine ⟨fun _ => Nat.le_of_ble_eq_true rfl, ?_⟩ | refine ⟨fun h => Bool.noConfusion h, ?_⟩)
  conv => whnf
  refine ⟨[], trivial, rfl, trivial, rfl, ?_⟩
  try subst hk
  repeat' (first | exact trivial | rfl | exact .inl rfl | exact .inr rfl | exact id | exact (fun h => Bool.noConfusion h) | refine And.intro ?_ ?_)
  · show 0 + (wo l x).length ≤ _
    rw [rowsI_len, List.length_append]; omega
  · show ((rowsI (wo l x ++ List.replicate (l.length - (wo l x).length) 0)).drop 0).take (wo l x).length = rowsI (wo l x)
    rw [List.drop_zero, rowsI, ← List.map_take, List.take_append_of_le_length (Nat.le_refl _), List.take_length]
    rfl
set_option maxRecDepth 20000 in
theorem ok241 (l : List Int) (t : Bool) (x : Int) (hl : l.length ≤ 100000) : FnC Tryz.prog 241 [] [.lst 1 t (rowsI l), .int .i64 x] (.lst 1 false (rowsI (x :: wo l x))) [] := by
  have hwl := wo_len l x
  refine fn_okX (ob0 := []) [] Tryz.func241 rfl rfl rfl rfl ?_
  repeat ((conv => whnf); first | refine Cd.go ?_ | refine ⟨rfl, ?_⟩ | refine rq_dec ⟨.inl rfl, rfl⟩ ?_ | refine rq_dec rfl ?_ | refine ⟨Nat.le_of_ble_eq_true rfl, ?_⟩ | refine ⟨.inl rfl, ?_⟩ | refine ⟨fun _ => ⟨rfl, Nat.le_of_ble_eq_true rfl⟩, ?_⟩ | refine ⟨fun _ => Nat.le_of_ble_eq_true rfl, ?_⟩ | refine ⟨fun h => Bool.noConfusion h, ?_⟩ | refine .inl ⟨_, fun _ => ⟨purA rfl, (by first | exact ok288 l t x hl)⟩, .inl rfl, ?_⟩)
  conv => whnf
  rw [rowsI_len]
  first | refine rq_app (by show ((1 + (wo l x).length : Nat) : Int) ≤ _; omega) (by show (1 + (wo l x).length) * 8 ≤ _; omega) ?_ | refine rq_dec ⟨by show ((1 + (wo l x).length : Nat) : Int) ≤ _; omega, by show (1 + (wo l x).length) * 8 ≤ _; omega⟩ ?_ | refine ⟨by show ((1 + (wo l x).length : Nat) : Int) ≤ _; omega, by show (1 + (wo l x).length) * 8 ≤ _; omega, ?_⟩
  repeat ((conv => whnf); first | refine Cd.go ?_ | refine ⟨rfl, ?_⟩ | refine rq_dec ⟨.inl rfl, rfl⟩ ?_ | refine rq_dec rfl ?_ | refine ⟨Nat.le_of_ble_eq_true rfl, ?_⟩ | refine ⟨.inl rfl, ?_⟩ | refine ⟨fun _ => ⟨rfl, Nat.le_of_ble_eq_true rfl⟩, ?_⟩ | refine ⟨fun _ => Nat.le_of_ble_eq_true rfl, ?_⟩ | refine ⟨fun h => Bool.noConfusion h, ?_⟩)
  conv => whnf
  refine ⟨[], trivial, rfl, trivial, rfl, ?_⟩
  try subst hk
  repeat' (first | exact trivial | rfl | exact .inl rfl | exact .inr rfl | exact id | exact (fun h => Bool.noConfusion h) | refine And.intro ?_ ?_)
  · show 0 + (1 + (wo l x).length) ≤ ([[V.int .i64 x]] ++ rowsI (wo l x)).length
    rw [List.length_append, rowsI_len]; simp
  · show List.take (1 + (wo l x).length) (List.drop 0 ([[V.int .i64 x]] ++ rowsI (wo l x))) = rowsI (x :: wo l x)
    exact take0 (by rw [List.length_append, rowsI_len]; simp)
end Go.Proofs.YtmhapcbjjpadnaaGreat

set_option maxRecDepth 40000
namespace Go.Proofs.YtmhapcbjjpadnaaGreat
open Go Go.Sk Go.RowKit

structure Ls where
  A : List Int
  I : List Int
  R : List Int
def Ls.c (l : Ls) : List V := [.lst 1 false (rowsI l.A), .lst 1 false (rowsI l.I), .lst 1 false (rowsI l.R)]
structure SmallL (l : Ls) : Prop where
  a : l.A.length ≤ 10000
  i : l.I.length ≤ 10000
  r : l.R.length ≤ 10000
set_option maxRecDepth 20000 in
theorem ok238 (l : Ls) (hl : SmallL l) : FnC Tryz.prog 238 [] [.agg l.c] (.agg l.c) [] := by
  have h1 := hl.a; have h2 := hl.i; have h3 := hl.r
  refine fn_okX (ob0 := []) [] Tryz.func238 rfl rfl rfl rfl ?_
  repeat ((conv => whnf); first | refine Cd.go ?_ | refine ⟨rfl, ?_⟩ | refine rq_dec ⟨.inl rfl, rfl⟩ ?_ | refine rq_dec rfl ?_ | refine ⟨Nat.le_of_ble_eq_true rfl, ?_⟩ | refine ⟨.inl rfl, ?_⟩ | refine ⟨fun _ => ⟨rfl, Nat.le_of_ble_eq_true rfl⟩, ?_⟩ | refine ⟨fun _ => Nat.le_of_ble_eq_true rfl, ?_⟩ | refine ⟨fun h => Bool.noConfusion h, ?_⟩)
  conv => whnf
  refine .inr ⟨fun _ => ⟨[], _, _, _, ok107 (rowsI l.A) false (by rw [rowsI_len]; omega), trivial, rfl, rfl, rfl, ?_⟩, (by intro h; cases h)⟩
  rw [rowsI_len]
  repeat ((conv => whnf); first | refine Cd.go ?_ | refine ⟨rfl, ?_⟩ | refine rq_dec ⟨.inl rfl, rfl⟩ ?_ | refine rq_dec rfl ?_ | refine ⟨Nat.le_of_ble_eq_true rfl, ?_⟩ | refine ⟨.inl rfl, ?_⟩ | refine ⟨fun _ => ⟨rfl, Nat.le_of_ble_eq_true rfl⟩, ?_⟩ | refine ⟨fun _ => Nat.le_of_ble_eq_true rfl, ?_⟩ | refine ⟨fun h => Bool.noConfusion h, ?_⟩)
  conv => whnf
  refine .inr ⟨fun _ => ⟨[], _, _, _, ok107 (rowsI l.I) false (by rw [rowsI_len]; omega), trivial, rfl, rfl, rfl, ?_⟩, (by intro h; cases h)⟩
  rw [rowsI_len]
  repeat ((conv => whnf); first | refine Cd.go ?_ | refine ⟨rfl, ?_⟩ | refine rq_dec ⟨.inl rfl, rfl⟩ ?_ | refine rq_dec rfl ?_ | refine ⟨Nat.le_of_ble_eq_true rfl, ?_⟩ | refine ⟨.inl rfl, ?_⟩ | refine ⟨fun _ => ⟨rfl, Nat.le_of_ble_eq_true rfl⟩, ?_⟩ | refine ⟨fun _ => Nat.le_of_ble_eq_true rfl, ?_⟩ | refine ⟨fun h => Bool.noConfusion h, ?_⟩)
  conv => whnf
  refine .inr ⟨fun _ => ⟨[], _, _, _, ok107 (rowsI l.R) false (by rw [rowsI_len]; omega), trivial, rfl, rfl, rfl, ?_⟩, (by intro h; cases h)⟩
  rw [rowsI_len]
  repeat ((conv => whnf); first | refine Cd.go ?_ | refine ⟨rfl, ?_⟩ | refine rq_dec ⟨.inl rfl, rfl⟩ ?_ | refine rq_dec rfl ?_ | refine ⟨Nat.le_of_ble_eq_true rfl, ?_⟩ | refine ⟨.inl rfl, ?_⟩ | refine ⟨fun _ => ⟨rfl, Nat.le_of_ble_eq_true rfl⟩, ?_⟩ | refine ⟨fun _ => Nat.le_of_ble_eq_true rfl, ?_⟩ | refine ⟨fun h => Bool.noConfusion h, ?_⟩)
  conv => whnf
  refine ⟨[], trivial, rfl, trivial, rfl, ?_⟩
  try subst hk
  repeat' (first | exact trivial | rfl | exact .inl rfl | exact .inr rfl | exact id | exact (fun h => Bool.noConfusion h) | refine And.intro ?_ ?_)
  · show 0 + l.A.length ≤ _
    rw [rowsI_len]; omega
  · exact take0 (rowsI_len _)
  · show 0 + l.I.length ≤ _
    rw [rowsI_len]; omega
  · exact take0 (rowsI_len _)
  · show 0 + l.R.length ≤ _
    rw [rowsI_len]; omega
  · exact take0 (rowsI_len _)
/-- The same, the third list owned. -/
theorem ok238t (l : Ls) (hl : SmallL l) : FnC Tryz.prog 238 [] [.agg l.c] (.agg [.lst 1 false (rowsI l.A), .lst 1 false (rowsI l.I), .sl 0 0 l.R.length]) [.row 1 (rowsI l.R)] := by
  have h1 := hl.a; have h2 := hl.i; have h3 := hl.r
  refine fn_okX (ob0 := []) [] Tryz.func238 rfl rfl rfl rfl ?_
  repeat ((conv => whnf); first | refine Cd.go ?_ | refine ⟨rfl, ?_⟩ | refine rq_dec ⟨.inl rfl, rfl⟩ ?_ | refine rq_dec rfl ?_ | refine ⟨Nat.le_of_ble_eq_true rfl, ?_⟩ | refine ⟨.inl rfl, ?_⟩ | refine ⟨fun _ => ⟨rfl, Nat.le_of_ble_eq_true rfl⟩, ?_⟩ | refine ⟨fun _ => Nat.le_of_ble_eq_true rfl, ?_⟩ | refine ⟨fun h => Bool.noConfusion h, ?_⟩)
  conv => whnf
  refine .inr ⟨fun _ => ⟨[], _, _, _, ok107 (rowsI l.A) false (by rw [rowsI_len]; omega), trivial, rfl, rfl, rfl, ?_⟩, (by intro h; cases h)⟩
  rw [rowsI_len]
  repeat ((conv => whnf); first | refine Cd.go ?_ | refine ⟨rfl, ?_⟩ | refine rq_dec ⟨.inl rfl, rfl⟩ ?_ | refine rq_dec rfl ?_ | refine ⟨Nat.le_of_ble_eq_true rfl, ?_⟩ | refine ⟨.inl rfl, ?_⟩ | refine ⟨fun _ => ⟨rfl, Nat.le_of_ble_eq_true rfl⟩, ?_⟩ | refine ⟨fun _ => Nat.le_of_ble_eq_true rfl, ?_⟩ | refine ⟨fun h => Bool.noConfusion h, ?_⟩)
  conv => whnf
  refine .inr ⟨fun _ => ⟨[], _, _, _, ok107 (rowsI l.I) false (by rw [rowsI_len]; omega), trivial, rfl, rfl, rfl, ?_⟩, (by intro h; cases h)⟩
  rw [rowsI_len]
  repeat ((conv => whnf); first | refine Cd.go ?_ | refine ⟨rfl, ?_⟩ | refine rq_dec ⟨.inl rfl, rfl⟩ ?_ | refine rq_dec rfl ?_ | refine ⟨Nat.le_of_ble_eq_true rfl, ?_⟩ | refine ⟨.inl rfl, ?_⟩ | refine ⟨fun _ => ⟨rfl, Nat.le_of_ble_eq_true rfl⟩, ?_⟩ | refine ⟨fun _ => Nat.le_of_ble_eq_true rfl, ?_⟩ | refine ⟨fun h => Bool.noConfusion h, ?_⟩)
  conv => whnf
  refine .inr ⟨fun _ => ⟨[], _, _, _, ok107 (rowsI l.R) false (by rw [rowsI_len]; omega), trivial, rfl, rfl, rfl, ?_⟩, (by intro h; cases h)⟩
  rw [rowsI_len]
  repeat ((conv => whnf); first | refine Cd.go ?_ | refine ⟨rfl, ?_⟩ | refine rq_dec ⟨.inl rfl, rfl⟩ ?_ | refine rq_dec rfl ?_ | refine ⟨Nat.le_of_ble_eq_true rfl, ?_⟩ | refine ⟨.inl rfl, ?_⟩ | refine ⟨fun _ => ⟨rfl, Nat.le_of_ble_eq_true rfl⟩, ?_⟩ | refine ⟨fun _ => Nat.le_of_ble_eq_true rfl, ?_⟩ | refine ⟨fun h => Bool.noConfusion h, ?_⟩)
  conv => whnf
  try subst hk
  refine ⟨[some 2176], ?_, rfl, ?_, rfl, ?_⟩
  all_goals repeat' (first | exact trivial | rfl | exact .inl rfl | exact .inr rfl | exact id | exact (fun h => Bool.noConfusion h) | refine And.intro ?_ ?_)
  · show 0 + l.A.length ≤ _
    rw [rowsI_len]; omega
  · exact take0 (rowsI_len _)
  · show 0 + l.I.length ≤ _
    rw [rowsI_len]; omega
  · exact take0 (rowsI_len _)
def noneBad (b : Nat → Bool) : Nat → Bool
  | 0 => true
  | n + 1 => noneBad b n && !b n
theorem noneBad_at {b : Nat → Bool} : ∀ {n i : Nat}, i < n → noneBad b n = true → b i = false
  | 0, _, h, _ => by omega
  | n + 1, i, h, h1 => by
    simp only [noneBad, Bool.and_eq_true, Bool.not_eq_true'] at h1
    by_cases e : i = n
    · subst e; exact h1.2
    · exact noneBad_at (n := n) (by omega) h1.1
theorem noneBad_bad {b : Nat → Bool} {n i : Nat} (h : i < n) (hb : b i = true) : noneBad b n = false := by
  cases ha : noneBad b n with
  | false => rfl
  | true => rw [noneBad_at h ha] at hb; cases hb
theorem noneBad_of {b : Nat → Bool} : ∀ {n : Nat}, (∀ i, i < n → b i = false) → noneBad b n = true
  | 0, _ => rfl
  | n + 1, h => by simp only [noneBad, noneBad_of (n := n) fun i hi => h i (by omega), h n (by omega)]; rfl
def badA (all : List Int) (i : Nat) : Bool := !knownB (all.getD i 0) || decide (all.getD i 0 ∈ all.take i)
def badQ (all R : List Int) (i : Nat) : Bool := !decide (R.getD i 0 ∈ all) || (decide (0 < (i : Int)) && decide (R.getD i 0 ≤ R.getD (i - 1) 0))
def chkL (l : Ls) : Bool := noneBad (badA (l.A ++ l.I)) (l.A ++ l.I).length && noneBad (badQ (l.A ++ l.I) l.R) l.R.length
end Go.Proofs.YtmhapcbjjpadnaaGreat

