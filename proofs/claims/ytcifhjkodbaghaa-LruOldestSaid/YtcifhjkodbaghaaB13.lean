/- Zone: BinarySearch at []int. -/
import Derived.Test.YtcifhjkodbaghaaB12
set_option linter.unusedSimpArgs false
set_option linter.unusedVariables false
namespace Go.Proofs.Ytcifhjkodbaghaa
open Go Go.Sk Go.RowKit

/- slices.BinarySearch[[]int,int] -/
def rc60 : RC :=
  (.seq
  (.reg [⟨(some 4), none, (.mv (.c (.int .i64 0)))⟩,
    ⟨(some 5), none, (.mv (.c (.bool false)))⟩] [])
  (.seq
  (.reg [⟨(some 10), none, (.mv (.t 0))⟩,
    ⟨(some 11), none, (.len (.t 10))⟩,
    ⟨(some 6), none, (.mv (.t 11))⟩] [10, 11])
  (.seq
  (.reg [⟨(some 12), none, (.mv (.t 6))⟩,
    ⟨(some 7), none, (.mv (.c (.int .i64 0)))⟩,
    ⟨(some 8), none, (.mv (.t 12))⟩] [12])
  (.seq
  (.block 0
   (.loop
    (.seq
    (.seq
    (.reg [⟨(some 13), none, (.mv (.t 7))⟩,
      ⟨(some 14), none, (.mv (.t 8))⟩,
      ⟨(some 15), none, (.bin .lss (.t 13) (.t 14))⟩] [13, 14])
    (.cond (.t 15)
     .skip
     (.exit 0)))
    (.block 1
     (.seq
     (.reg [⟨(some 16), none, (.mv (.t 7))⟩,
       ⟨(some 17), none, (.mv (.t 8))⟩,
       ⟨(some 18), none, (.bin .add (.t 16) (.t 17))⟩,
       ⟨(some 19), none, (.conv .u64 (.t 18))⟩,
       ⟨(some 20), none, (.bin .shr (.t 19) (.c (.int .u64 1)))⟩,
       ⟨(some 21), none, (.conv .i64 (.t 20))⟩,
       ⟨(some 9), none, (.mv (.t 21))⟩] [16, 17, 18, 19, 20, 21])
     (.seq
     (.reg [⟨(some 22), none, (.mv (.t 0))⟩,
       ⟨(some 23), none, (.mv (.t 9))⟩,
       ⟨(some 24), none, (.iaddr 1 (.t 22) (.t 23))⟩,
       ⟨(some 25), none, (.ld false 1 (.t 24))⟩,
       ⟨(some 26), none, (.mv (.t 1))⟩,
       ⟨(some 27), none, (.call 78 [(.t 25), (.t 26)])⟩] [22, 23, 24, 25, 26])
     (.cond (.t 27)
      (.reg [⟨(some 28), none, (.mv (.t 9))⟩,
        ⟨(some 29), none, (.bin .add (.t 28) (.c (.int .i64 1)))⟩,
        ⟨(some 7), none, (.mv (.t 29))⟩] [28, 29])
      (.reg [⟨(some 30), none, (.mv (.t 9))⟩,
        ⟨(some 8), none, (.mv (.t 30))⟩] [30]))))))))
  (.seq
  (.reg [⟨(some 31), none, (.mv (.t 7))⟩,
    ⟨(some 32), none, (.mv (.t 7))⟩,
    ⟨(some 33), none, (.mv (.t 6))⟩,
    ⟨(some 34), none, (.bin .lss (.t 32) (.t 33))⟩,
    ⟨(some 35), none, (.mv (.t 34))⟩,
    ⟨(some 36), (some (35, true)), (.mv (.t 0))⟩,
    ⟨(some 37), (some (35, true)), (.mv (.t 7))⟩,
    ⟨(some 38), (some (35, true)), (.iaddr 1 (.t 36) (.t 37))⟩,
    ⟨(some 39), (some (35, true)), (.ld false 1 (.t 38))⟩,
    ⟨(some 40), (some (35, true)), (.mv (.t 1))⟩,
    ⟨(some 41), (some (35, true)), (.bin .eql (.t 39) (.t 40))⟩,
    ⟨(some 42), (some (35, true)), (.mv (.t 41))⟩,
    ⟨(some 43), (some (42, false)), (.mv (.t 0))⟩,
    ⟨(some 44), (some (42, false)), (.mv (.t 7))⟩,
    ⟨(some 45), (some (42, false)), (.iaddr 1 (.t 43) (.t 44))⟩,
    ⟨(some 46), (some (42, false)), (.ld false 1 (.t 45))⟩,
    ⟨(some 47), (some (42, false)), (.call 79 [(.t 46)])⟩,
    ⟨(some 48), (some (42, false)), (.mv (.t 47))⟩,
    ⟨(some 49), (some (48, true)), (.mv (.t 1))⟩,
    ⟨(some 50), (some (48, true)), (.call 79 [(.t 49)])⟩,
    ⟨(some 51), (some (42, false)), (.pick (.t 48) (.t 50) (.c (.bool false)))⟩,
    ⟨(some 52), (some (35, true)), (.pick (.t 42) (.c (.bool true)) (.t 51))⟩,
    ⟨(some 53), none, (.pick (.t 35) (.t 52) (.c (.bool false)))⟩,
    ⟨(some 4), none, (.mv (.t 31))⟩,
    ⟨(some 5), none, (.mv (.t 53))⟩] [31, 32, 33, 34, 35, 36, 37, 38, 39, 40, 41, 42, 43, 44, 45, 46, 47, 48, 49, 50, 51, 52, 53])
  .ret)))))
theorem rcq60 : resC Go.Proofs.Try.prog Go.Proofs.Try.f60.ntmps ((Go.Proofs.Try.f60.body).getD .skip) = some (strip rc60) := by kernel_rfl
def rv60 : List RV := [(.tmp 4), (.tmp 5)]
theorem rvq60 : Go.Proofs.Try.f60.results.toList.mapM (resRV Go.Proofs.Try.prog) = some rv60 := by kernel_rfl

/- cmp.Less[int] -/
def rc78 : RC :=
  (.seq
  (.reg [⟨(some 4), none, (.mv (.c (.bool false)))⟩] [])
  (.seq
  (.reg [⟨(some 5), none, (.mv (.t 0))⟩,
    ⟨(some 6), none, (.call 85 [(.t 5)])⟩,
    ⟨(some 7), none, (.mv (.t 6))⟩,
    ⟨(some 8), (some (7, true)), (.mv (.t 1))⟩,
    ⟨(some 9), (some (7, true)), (.call 85 [(.t 8)])⟩,
    ⟨(some 10), (some (7, true)), (.un .not (.t 9))⟩,
    ⟨(some 11), none, (.pick (.t 7) (.t 10) (.c (.bool false)))⟩,
    ⟨(some 12), none, (.mv (.t 11))⟩,
    ⟨(some 13), (some (12, false)), (.mv (.t 0))⟩,
    ⟨(some 14), (some (12, false)), (.mv (.t 1))⟩,
    ⟨(some 15), (some (12, false)), (.bin .lss (.t 13) (.t 14))⟩,
    ⟨(some 16), none, (.pick (.t 12) (.c (.bool true)) (.t 15))⟩,
    ⟨(some 4), none, (.mv (.t 16))⟩] [5, 6, 7, 8, 9, 10, 11, 12, 13, 14, 15, 16])
  .ret))
theorem rcq78 : resC Go.Proofs.Try.prog Go.Proofs.Try.f78.ntmps ((Go.Proofs.Try.f78.body).getD .skip) = some (strip rc78) := by kernel_rfl
def rv78 : List RV := [(.tmp 4)]
theorem rvq78 : Go.Proofs.Try.f78.results.toList.mapM (resRV Go.Proofs.Try.prog) = some rv78 := by kernel_rfl

/- slices.isNaN[int] -/
def rc79 : RC :=
  (.seq
  (.reg [⟨(some 2), none, (.mv (.c (.bool false)))⟩] [])
  (.seq
  (.reg [⟨(some 3), none, (.mv (.t 0))⟩,
    ⟨(some 4), none, (.mv (.t 0))⟩,
    ⟨(some 5), none, (.bin .neq (.t 3) (.t 4))⟩,
    ⟨(some 2), none, (.mv (.t 5))⟩] [3, 4, 5])
  .ret))
theorem rcq79 : resC Go.Proofs.Try.prog Go.Proofs.Try.f79.ntmps ((Go.Proofs.Try.f79.body).getD .skip) = some (strip rc79) := by kernel_rfl
def rv79 : List RV := [(.tmp 2)]
theorem rvq79 : Go.Proofs.Try.f79.results.toList.mapM (resRV Go.Proofs.Try.prog) = some rv79 := by kernel_rfl

/- cmp.isNaN[int] -/
def rc85 : RC :=
  (.seq
  (.reg [⟨(some 2), none, (.mv (.c (.bool false)))⟩] [])
  (.seq
  (.reg [⟨(some 3), none, (.mv (.t 0))⟩,
    ⟨(some 4), none, (.mv (.t 0))⟩,
    ⟨(some 5), none, (.bin .neq (.t 3) (.t 4))⟩,
    ⟨(some 2), none, (.mv (.t 5))⟩] [3, 4, 5])
  .ret))
theorem rcq85 : resC Go.Proofs.Try.prog Go.Proofs.Try.f85.ntmps ((Go.Proofs.Try.f85.body).getD .skip) = some (strip rc85) := by kernel_rfl
def rv85 : List RV := [(.tmp 2)]
theorem rvq85 : Go.Proofs.Try.f85.results.toList.mapM (resRV Go.Proofs.Try.prog) = some rv85 := by kernel_rfl

theorem ok85n (x : Int) : FnC Try.prog 85 [] [.int .i64 x] (.bool (x != x)) [] := by
  refine fn_okC (ob0 := []) (rc := rc85) (rvs := rv85) Try.func85 rfl rcq85 rvq85 (show 1 ≤ _ by decide) ?_
  repeat ((conv => whnf); first | refine Cd.seq ?_ | refine Cd.cut ?_ | refine Cd.reg ?_ | refine Cd.block ?_ | refine Cd.cond ?_ | refine Cd.dreg ?_ | refine Cd.skip ?_ | refine Cd.ret ?_ | refine Cd.exit ?_ | refine Cd.loop ?_ | refine ⟨rfl, ?_⟩ | refine ⟨Nat.le_of_ble_eq_true rfl, ?_⟩ | refine ⟨.inl rfl, ?_⟩ | refine ⟨fun h => Bool.noConfusion h, ?_⟩)
  conv => whnf
  refine ⟨[], ?_, rfl, trivial, rfl, ?_⟩
  · exact trivial
  try subst hk
  repeat' (first | exact trivial | rfl | exact .inl rfl | exact .inr rfl | exact id | exact (fun h => Bool.noConfusion h) | refine And.intro ?_ ?_)
theorem ok85 (x : Int) : FnC Try.prog 85 [] [.int .i64 x] (.bool false) [] := by
  have := ok85n x
  rwa [show (x != x) = false by simp] at this
theorem ok79n (x : Int) : FnC Try.prog 79 [] [.int .i64 x] (.bool (x != x)) [] := by
  refine fn_okC (ob0 := []) (rc := rc79) (rvs := rv79) Try.func79 rfl rcq79 rvq79 (show 1 ≤ _ by decide) ?_
  repeat ((conv => whnf); first | refine Cd.seq ?_ | refine Cd.cut ?_ | refine Cd.reg ?_ | refine Cd.block ?_ | refine Cd.cond ?_ | refine Cd.dreg ?_ | refine Cd.skip ?_ | refine Cd.ret ?_ | refine Cd.exit ?_ | refine Cd.loop ?_ | refine ⟨rfl, ?_⟩ | refine ⟨Nat.le_of_ble_eq_true rfl, ?_⟩ | refine ⟨.inl rfl, ?_⟩ | refine ⟨fun h => Bool.noConfusion h, ?_⟩)
  conv => whnf
  refine ⟨[], ?_, rfl, trivial, rfl, ?_⟩
  · exact trivial
  try subst hk
  repeat' (first | exact trivial | rfl | exact .inl rfl | exact .inr rfl | exact id | exact (fun h => Bool.noConfusion h) | refine And.intro ?_ ?_)
theorem ok79 (x : Int) : FnC Try.prog 79 [] [.int .i64 x] (.bool false) [] := by
  have := ok79n x
  rwa [show (x != x) = false by simp] at this
theorem ok78 (x y : Int) : FnC Try.prog 78 [] [.int .i64 x, .int .i64 y] (.bool (decide (x < y))) [] := by
  refine fn_okC (ob0 := []) (rc := rc78) (rvs := rv78) Try.func78 rfl rcq78 rvq78 (show 2 ≤ _ by decide) ?_
  repeat ((conv => whnf); first | refine Cd.seq ?_ | refine Cd.cut ?_ | refine Cd.reg ?_ | refine Cd.block ?_ | refine Cd.cond ?_ | refine Cd.dreg ?_ | refine Cd.skip ?_ | refine Cd.ret ?_ | refine Cd.exit ?_ | refine Cd.loop ?_ | refine ⟨rfl, ?_⟩ | refine ⟨Nat.le_of_ble_eq_true rfl, ?_⟩ | refine ⟨.inl rfl, ?_⟩ | refine ⟨fun h => Bool.noConfusion h, ?_⟩ | refine .inl ⟨_, fun _ => ⟨purA rfl, (by first | exact ok85 x | exact ok85 y)⟩, .inl rfl, ?_⟩)
  conv => whnf
  refine ⟨[], ?_, rfl, trivial, rfl, ?_⟩
  · exact trivial
  try subst hk
  repeat' (first | exact trivial | rfl | exact .inl rfl | exact .inr rfl | exact id | exact (fun h => Bool.noConfusion h) | refine And.intro ?_ ?_)
/-- How many are less. -/
def atI (l : List Int) (x : Int) : Nat := (l.takeWhile (decide <| · < x)).length
theorem atI_eq : ∀ (l : List Int) (x : Int) (i : Nat), i ≤ l.length → (∀ j, j < i → l.getD j 0 < x) → (∀ j, i ≤ j → j < l.length → x ≤ l.getD j 0) → atI l x = i
  | [], _, i, h, _, _ => by simp at h; subst h; rfl
  | y :: r, x, 0, _, _, h2 => by
    have := h2 0 (by omega) (by simp)
    simp only [List.getD_cons_zero] at this
    simp only [atI, List.takeWhile_cons]
    rw [show decide (y < x) = false by simpa using this]; rfl
  | y :: r, x, i + 1, h, h1, h2 => by
    have := h1 0 (by omega)
    simp only [List.getD_cons_zero] at this
    have ih := atI_eq r x i (by simpa using h) (fun j hj => by simpa using h1 (j + 1) (by omega)) (fun j hj hj' => by simpa using h2 (j + 1) (by omega) (by simpa using hj'))
    simp only [atI, List.takeWhile_cons]
    rw [show decide (y < x) = true by simpa using this]
    simpa [atI] using ih
def hitI (l : List Int) (x : Int) : Bool := bif decide (atI l x < l.length) then l.getD (atI l x) 0 == x else false
set_option maxRecDepth 20000 in
theorem ok60 (l : List Int) (t : Bool) (x : Int) (hl : l.length ≤ 100000) (hs : l.Pairwise (· < ·)) : FnC Try.prog 60 [] [.lst 1 t (rowsI l), .int .i64 x] (.tup [.int .i64 (atI l x), .bool (hitI l x)]) [] := by
  have hmon : ∀ i j, i < j → j < l.length → l.getD i 0 < l.getD j 0 := fun i j hij hj => by
    rw [← getI l i (by omega), ← getI l j hj]
    exact List.pairwise_iff_getElem.1 hs i j (by omega) hj hij
  refine fn_okC (ob0 := []) (rc := rc60) (rvs := rv60) Try.func60 rfl rcq60 rvq60 (show 2 ≤ _ by decide) ?_
  repeat ((conv => whnf); first | refine Cd.seq ?_ | refine Cd.cut ?_ | refine Cd.reg ?_ | refine Cd.block ?_ | refine Cd.cond ?_ | refine Cd.dreg ?_ | refine Cd.skip ?_ | refine Cd.ret ?_ | refine Cd.exit ?_ | refine Cd.loop ?_ | refine ⟨rfl, ?_⟩ | refine ⟨Nat.le_of_ble_eq_true rfl, ?_⟩ | refine ⟨.inl rfl, ?_⟩ | refine ⟨fun h => Bool.noConfusion h, ?_⟩)
  conv => whnf
  rw [rowsI_len]
  refine ⟨Nat × Nat, fun p => (p.1 ≤ p.2 ∧ p.2 ≤ l.length) ∧ (∀ j, j < p.1 → l.getD j 0 < x) ∧ (∀ j, p.2 ≤ j → j < l.length → x ≤ l.getD j 0), fun p => ⟨[(0, ⟨[], true, .lst 1 t (rowsI l)⟩), (1, ⟨[], true, .int .i64 x⟩), (6, ⟨[], true, .int .i64 (l.length : Int)⟩), (7, ⟨[], true, .int .i64 (p.1 : Int)⟩), (8, ⟨[], true, .int .i64 (p.2 : Int)⟩)], [], 0⟩, fun p => p.2 - p.1, ⟨(0, l.length), ⟨⟨by omega, by omega⟩, fun j hj => by simp at hj, fun j hj hj' => by simp only at hj; omega⟩, ?_⟩, fun p hI => ?_⟩
  · refine viewI [] rfl rfl ?_ rfl ?_ rfl ?_
    repeat' (first | exact trivial | rfl | exact .inl rfl | exact .inr rfl | exact id | exact (fun h => Bool.noConfusion h) | refine And.intro ?_ ?_)
  obtain ⟨a, b⟩ := p
  obtain ⟨⟨hI1, hI2⟩, hI3, hI4⟩ := hI
  simp only at hI1 hI2 hI3 hI4
  repeat ((conv => whnf); first | refine Cd.seq ?_ | refine Cd.cut ?_ | refine Cd.reg ?_ | refine Cd.block ?_ | refine Cd.cond ?_ | refine Cd.dreg ?_ | refine Cd.skip ?_ | refine Cd.ret ?_ | refine Cd.exit ?_ | refine Cd.loop ?_ | refine ⟨rfl, ?_⟩ | refine ⟨Nat.le_of_ble_eq_true rfl, ?_⟩ | refine ⟨.inl rfl, ?_⟩ | refine ⟨fun h => Bool.noConfusion h, ?_⟩)
  conv => whnf
  refine ⟨fun h1 => ?_, fun h1 => ?_⟩ <;> try simp only [Bool.cond_true_left, Bool.cond_false_right, Bool.not_eq_true', Bool.not_eq_false', Bool.not_not] at h1
  · have h1 : a < b := by simpa using h1
    repeat ((conv => whnf); first | refine Cd.seq ?_ | refine Cd.cut ?_ | refine Cd.reg ?_ | refine Cd.block ?_ | refine Cd.cond ?_ | refine Cd.dreg ?_ | refine Cd.skip ?_ | refine Cd.ret ?_ | refine Cd.exit ?_ | refine Cd.loop ?_ | refine ⟨rfl, ?_⟩ | refine ⟨Nat.le_of_ble_eq_true rfl, ?_⟩ | refine ⟨.inl rfl, ?_⟩ | refine ⟨fun h => Bool.noConfusion h, ?_⟩)
    conv => whnf
    refine ⟨fun _ => by decide, ?_⟩
    repeat ((conv => whnf); first | refine Cd.seq ?_ | refine Cd.cut ?_ | refine Cd.reg ?_ | refine Cd.block ?_ | refine Cd.cond ?_ | refine Cd.dreg ?_ | refine Cd.skip ?_ | refine Cd.ret ?_ | refine Cd.exit ?_ | refine Cd.loop ?_ | refine ⟨rfl, ?_⟩ | refine ⟨Nat.le_of_ble_eq_true rfl, ?_⟩ | refine ⟨.inl rfl, ?_⟩ | refine ⟨fun h => Bool.noConfusion h, ?_⟩)
    conv => whnf
    have hm : IntKind.i64.wrap ((IntKind.u64.wrap (IntKind.i64.wrap ((((a, b).fst : Nat) : Int) + (((a, b).snd : Nat) : Int)))).fdiv (2 ^ min (Int.toNat 1) IntKind.u64.bits)) = (((a + b) / 2 : Nat) : Int) := by
      simp only []
      rw [wrapI (n := (a : Int) + b) (by omega) (by omega), show IntKind.u64.wrap ((a : Int) + b) = (a : Int) + b from by
        have := Int.emod_eq_of_lt (a := (a : Int) + b) (b := 18446744073709551616) (by omega) (by omega)
        simpa [IntKind.wrap, IntKind.bits, IntKind.signed] using this]
      have e : ((a : Int) + b).fdiv (2 ^ min (Int.toNat 1) IntKind.u64.bits) = ((a : Int) + b) / 2 := by
        rw [Int.fdiv_eq_ediv_of_nonneg _ (by decide)]; rfl
      rw [e, wrapI (by omega) (by omega)]
      omega
    rw [hm]
    have hmid : a ≤ (a + b) / 2 ∧ (a + b) / 2 < b := by omega
    generalize (a + b) / 2 = m at hm hmid
    refine ⟨fun _ => ⟨rfl, by omega, by rw [rowsI_len]; omega⟩, ?_⟩
    rw [Int.toNat_natCast, rowsI_get l m (by omega), getI]
    repeat ((conv => whnf); first | refine Cd.seq ?_ | refine Cd.cut ?_ | refine Cd.reg ?_ | refine Cd.block ?_ | refine Cd.cond ?_ | refine Cd.dreg ?_ | refine Cd.skip ?_ | refine Cd.ret ?_ | refine Cd.exit ?_ | refine Cd.loop ?_ | refine ⟨rfl, ?_⟩ | refine ⟨Nat.le_of_ble_eq_true rfl, ?_⟩ | refine ⟨.inl rfl, ?_⟩ | refine ⟨fun h => Bool.noConfusion h, ?_⟩ | refine .inl ⟨_, fun _ => ⟨purA rfl, (by first | exact ok78 (l.getD m 0) x)⟩, .inl rfl, ?_⟩)
    conv => whnf
    refine ⟨fun h2 => ?_, fun h2 => ?_⟩ <;> try simp only [Bool.cond_true_left, Bool.cond_false_right, Bool.not_eq_true', Bool.not_eq_false', Bool.not_not] at h2
    · have h2 : l.getD m 0 < x := by simpa using h2
      repeat ((conv => whnf); first | refine Cd.seq ?_ | refine Cd.cut ?_ | refine Cd.reg ?_ | refine Cd.block ?_ | refine Cd.cond ?_ | refine Cd.dreg ?_ | refine Cd.skip ?_ | refine Cd.ret ?_ | refine Cd.exit ?_ | refine Cd.loop ?_ | refine ⟨rfl, ?_⟩ | refine ⟨Nat.le_of_ble_eq_true rfl, ?_⟩ | refine ⟨.inl rfl, ?_⟩ | refine ⟨fun h => Bool.noConfusion h, ?_⟩)
      conv => whnf
      rw [wrapI (n := (m : Int) + 1) (by omega) (by omega), show ((m : Int) + 1) = ((m + 1 : Nat) : Int) by omega]
      refine ⟨(m + 1, b), ⟨⟨by show m + 1 ≤ b; omega, hI2⟩, fun j hj => ?_, hI4⟩, ?_, by show b - (m + 1) < b - a; omega⟩
      · have hj : j < m + 1 := hj
        by_cases e : j = m
        · rw [e]; exact h2
        · have := hmon j m (by omega) (by omega); omega
      refine viewI [] rfl rfl ?_ rfl ?_ rfl ?_
      repeat' (first | exact trivial | rfl | exact .inl rfl | exact .inr rfl | exact id | exact (fun h => Bool.noConfusion h) | refine And.intro ?_ ?_)
    have h2 : x ≤ l.getD m 0 := by simpa using h2
    repeat ((conv => whnf); first | refine Cd.seq ?_ | refine Cd.cut ?_ | refine Cd.reg ?_ | refine Cd.block ?_ | refine Cd.cond ?_ | refine Cd.dreg ?_ | refine Cd.skip ?_ | refine Cd.ret ?_ | refine Cd.exit ?_ | refine Cd.loop ?_ | refine ⟨rfl, ?_⟩ | refine ⟨Nat.le_of_ble_eq_true rfl, ?_⟩ | refine ⟨.inl rfl, ?_⟩ | refine ⟨fun h => Bool.noConfusion h, ?_⟩)
    conv => whnf
    refine ⟨(a, m), ⟨⟨hmid.1, by show m ≤ l.length; omega⟩, hI3, fun j hj hj' => ?_⟩, ?_, by show m - a < b - a; omega⟩
    · have hj : m ≤ j := hj
      by_cases e : j = m
      · rw [e]; exact h2
      · have := hmon m j (by omega) hj'; omega
    refine viewI [] rfl rfl ?_ rfl ?_ rfl ?_
    repeat' (first | exact trivial | rfl | exact .inl rfl | exact .inr rfl | exact id | exact (fun h => Bool.noConfusion h) | refine And.intro ?_ ?_)
  have h1 : a = b := by simp at h1; omega
  subst h1
  have hat := atI_eq l x a hI2 hI3 hI4
  have hk : hitI l x = (bif decide ((a : Int) < (l.length : Int)) then l.getD a 0 == x else false) := by
    rw [hitI, hat]; congr 1; simp
  repeat ((conv => whnf); first | refine Cd.seq ?_ | refine Cd.cut ?_ | refine Cd.reg ?_ | refine Cd.block ?_ | refine Cd.cond ?_ | refine Cd.dreg ?_ | refine Cd.skip ?_ | refine Cd.ret ?_ | refine Cd.exit ?_ | refine Cd.loop ?_ | refine ⟨rfl, ?_⟩ | refine ⟨Nat.le_of_ble_eq_true rfl, ?_⟩ | refine ⟨.inl rfl, ?_⟩ | refine ⟨fun h => Bool.noConfusion h, ?_⟩)
  conv => whnf
  by_cases hlt : a < l.length
  · have hd : decide ((((a, a).fst : Nat) : Int) < (l.length : Int)) = true := by simpa using hlt
    rw [hd]
    refine ⟨fun _ => ⟨rfl, by omega, by rw [rowsI_len]; show (a : Int) < _; omega⟩, ?_⟩
    rw [Int.toNat_natCast, rowsI_get l a hlt, getI]
    repeat ((conv => whnf); first | refine Cd.seq ?_ | refine Cd.cut ?_ | refine Cd.reg ?_ | refine Cd.block ?_ | refine Cd.cond ?_ | refine Cd.dreg ?_ | refine Cd.skip ?_ | refine Cd.ret ?_ | refine Cd.exit ?_ | refine Cd.loop ?_ | refine ⟨rfl, ?_⟩ | refine ⟨Nat.le_of_ble_eq_true rfl, ?_⟩ | refine ⟨.inl rfl, ?_⟩ | refine ⟨fun h => Bool.noConfusion h, ?_⟩ | refine .inl ⟨_, fun _ => ⟨purA rfl, (by first | exact ok79 (l.getD a 0) | exact ok79 x)⟩, .inl rfl, ?_⟩)
    conv => whnf
    refine ⟨fun _ => ⟨rfl, by show (0 : Int) ≤ (a : Int); omega, by rw [rowsI_len]; show (a : Int) < _; omega⟩, ?_⟩
    rw [Int.toNat_natCast, rowsI_get l a hlt, getI]
    repeat ((conv => whnf); first | refine Cd.seq ?_ | refine Cd.cut ?_ | refine Cd.reg ?_ | refine Cd.block ?_ | refine Cd.cond ?_ | refine Cd.dreg ?_ | refine Cd.skip ?_ | refine Cd.ret ?_ | refine Cd.exit ?_ | refine Cd.loop ?_ | refine ⟨rfl, ?_⟩ | refine ⟨Nat.le_of_ble_eq_true rfl, ?_⟩ | refine ⟨.inl rfl, ?_⟩ | refine ⟨fun h => Bool.noConfusion h, ?_⟩ | refine .inl ⟨_, fun _ => ⟨purA rfl, (by first | exact ok79 (l.getD a 0) | exact ok79 x)⟩, .inl rfl, ?_⟩)
    conv => whnf
    rw [hat, hk, show decide ((a : Int) < (l.length : Int)) = true by simpa using hlt]
    refine ⟨[], ?_, rfl, trivial, rfl, ?_⟩
    · exact trivial
    try subst hk
    repeat' (first | exact trivial | rfl | exact .inl rfl | exact .inr rfl | exact id | exact (fun h => Bool.noConfusion h) | refine And.intro ?_ ?_)
    cases l.getD a 0 == x <;> rfl
  · have hd : decide ((((a, a).fst : Nat) : Int) < (l.length : Int)) = false := by simpa using hlt
    have hr : (rowsI l).getD a [] = [] := by rw [List.getD_eq_getElem?_getD, List.getElem?_eq_none (by rw [rowsI_len]; omega)]; rfl
    rw [hd]
    refine ⟨fun h => (by cases h), ?_⟩
    rw [Int.toNat_natCast, hr]
    repeat ((conv => whnf); first | refine Cd.seq ?_ | refine Cd.cut ?_ | refine Cd.reg ?_ | refine Cd.block ?_ | refine Cd.cond ?_ | refine Cd.dreg ?_ | refine Cd.skip ?_ | refine Cd.ret ?_ | refine Cd.exit ?_ | refine Cd.loop ?_ | refine ⟨rfl, ?_⟩ | refine ⟨Nat.le_of_ble_eq_true rfl, ?_⟩ | refine ⟨.inl rfl, ?_⟩ | refine ⟨fun h => Bool.noConfusion h, ?_⟩)
    conv => whnf
    rw [Int.toNat_natCast, hr]
    repeat ((conv => whnf); first | refine Cd.seq ?_ | refine Cd.cut ?_ | refine Cd.reg ?_ | refine Cd.block ?_ | refine Cd.cond ?_ | refine Cd.dreg ?_ | refine Cd.skip ?_ | refine Cd.ret ?_ | refine Cd.exit ?_ | refine Cd.loop ?_ | refine ⟨rfl, ?_⟩ | refine ⟨Nat.le_of_ble_eq_true rfl, ?_⟩ | refine ⟨.inl rfl, ?_⟩ | refine ⟨fun h => Bool.noConfusion h, ?_⟩)
    conv => whnf
    refine .inr ⟨fun h => (by cases h), fun _ => ?_⟩
    repeat ((conv => whnf); first | refine Cd.seq ?_ | refine Cd.cut ?_ | refine Cd.reg ?_ | refine Cd.block ?_ | refine Cd.cond ?_ | refine Cd.dreg ?_ | refine Cd.skip ?_ | refine Cd.ret ?_ | refine Cd.exit ?_ | refine Cd.loop ?_ | refine ⟨rfl, ?_⟩ | refine ⟨Nat.le_of_ble_eq_true rfl, ?_⟩ | refine ⟨.inl rfl, ?_⟩ | refine ⟨fun h => Bool.noConfusion h, ?_⟩)
    conv => whnf
    refine .inr ⟨fun h => (by cases h), fun _ => ?_⟩
    repeat ((conv => whnf); first | refine Cd.seq ?_ | refine Cd.cut ?_ | refine Cd.reg ?_ | refine Cd.block ?_ | refine Cd.cond ?_ | refine Cd.dreg ?_ | refine Cd.skip ?_ | refine Cd.ret ?_ | refine Cd.exit ?_ | refine Cd.loop ?_ | refine ⟨rfl, ?_⟩ | refine ⟨Nat.le_of_ble_eq_true rfl, ?_⟩ | refine ⟨.inl rfl, ?_⟩ | refine ⟨fun h => Bool.noConfusion h, ?_⟩)
    conv => whnf
    rw [hat, hk, show decide ((a : Int) < (l.length : Int)) = false by simpa using hlt]
    refine ⟨[], ?_, rfl, trivial, rfl, ?_⟩
    · exact trivial
    try subst hk
    repeat' (first | exact trivial | rfl | exact .inl rfl | exact .inr rfl | exact id | exact (fun h => Bool.noConfusion h) | refine And.intro ?_ ?_)
end Go.Proofs.Ytcifhjkodbaghaa
