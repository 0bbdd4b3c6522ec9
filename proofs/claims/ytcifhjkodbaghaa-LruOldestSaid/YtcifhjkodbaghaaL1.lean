/- Lru: small functions; DeleteFunc, without, front. -/
import Derived.Test.YtcifhjkodbaghaaB16
set_option linter.unusedSimpArgs false
set_option linter.unusedVariables false
namespace Go.Proofs.Ytcifhjkodbaghaa
open Go Go.Sk Go.RowKit

/- pagecache/pagecacheref08.At -/
def rc54 : RC :=
  (.seq
  (.reg [⟨(some 4), none, (.mv (.c (.int .i64 0)))⟩] [])
  (.seq
  (.seq
  (.reg [⟨(some 5), none, (.mv (.c (.int .i64 0)))⟩] [])
  (.block 0
   (.loop
    (.seq
    (.seq
    (.reg [⟨(some 6), none, (.mv (.t 5))⟩,
      ⟨(some 7), none, (.mv (.t 0))⟩,
      ⟨(some 8), none, (.len (.t 7))⟩,
      ⟨(some 9), none, (.bin .lss (.t 6) (.t 8))⟩] [6, 7, 8])
    (.cond (.t 9)
     .skip
     (.exit 0)))
    (.seq
    (.block 1
     (.seq
     (.reg [⟨(some 12), none, (.mv (.t 0))⟩,
       ⟨(some 13), none, (.mv (.t 5))⟩,
       ⟨(some 14), none, (.iaddr 1 (.t 12) (.t 13))⟩,
       ⟨(some 15), none, (.ld false 1 (.t 14))⟩,
       ⟨(some 16), none, (.mv (.t 1))⟩,
       ⟨(some 17), none, (.bin .eql (.t 15) (.t 16))⟩] [12, 13, 14, 15, 16])
     (.cond (.t 17)
      (.seq
      (.reg [⟨(some 18), none, (.mv (.t 5))⟩,
        ⟨(some 4), none, (.mv (.t 18))⟩] [18])
      .ret)
      .skip)))
    (.reg [⟨(some 10), none, (.mv (.t 5))⟩,
      ⟨(some 11), none, (.bin .add (.t 10) (.c (.int .i64 1)))⟩,
      ⟨(some 5), none, (.mv (.t 11))⟩] [10, 11]))))))
  (.seq
  (.reg [⟨(some 4), none, (.mv (.c (.int .i64 (-1))))⟩] [])
  .ret)))
theorem rcq54 : resC Go.Proofs.Try.prog Go.Proofs.Try.f54.ntmps ((Go.Proofs.Try.f54.body).getD .skip) = some (strip rc54) := by kernel_rfl
def rv54 : List RV := [(.tmp 4)]
theorem rvq54 : Go.Proofs.Try.f54.results.toList.mapM (resRV Go.Proofs.Try.prog) = some rv54 := by kernel_rfl

/- pagecache/pagecacheref08.front -/
def rc70 : RC :=
  (.seq
  (.reg [⟨(some 4), none, (.mv (.c (.lst 0 true [])))⟩] [])
  (.seq
  (.reg [⟨(some 5), none, (.mv (.t 1))⟩,
    ⟨(some 6), none, (.bslice 1 [(.int .i64 0)] 1 [(0, (.t 5))])⟩,
    ⟨(some 7), none, (.mv (.t 0))⟩,
    ⟨(some 8), none, (.app 1 8 (.t 6) (.t 7))⟩,
    ⟨(some 4), none, (.mv (.t 8))⟩] [5, 6, 7, 8])
  .ret))
theorem rcq70 : resC Go.Proofs.Try.prog Go.Proofs.Try.f70.ntmps ((Go.Proofs.Try.f70.body).getD .skip) = some (strip rc70) := by kernel_rfl
def rv70 : List RV := [(.tmp 4)]
theorem rvq70 : Go.Proofs.Try.f70.results.toList.mapM (resRV Go.Proofs.Try.prog) = some rv70 := by kernel_rfl

/- pagecache/lru.known -/
def rc76 : RC :=
  (.seq
  (.reg [⟨(some 2), none, (.mv (.c (.bool false)))⟩] [])
  (.seq
  (.reg [⟨(some 3), none, (.mv (.t 0))⟩,
    ⟨(some 4), none, (.bin .geq (.t 3) (.c (.int .i64 1)))⟩,
    ⟨(some 5), none, (.mv (.t 4))⟩,
    ⟨(some 6), (some (5, true)), (.mv (.t 0))⟩,
    ⟨(some 7), (some (5, true)), (.bin .leq (.t 6) (.c (.int .i64 64)))⟩,
    ⟨(some 8), none, (.pick (.t 5) (.t 7) (.c (.bool false)))⟩,
    ⟨(some 2), none, (.mv (.t 8))⟩] [3, 4, 5, 6, 7, 8])
  .ret))
theorem rcq76 : resC Go.Proofs.Try.prog Go.Proofs.Try.f76.ntmps ((Go.Proofs.Try.f76.body).getD .skip) = some (strip rc76) := by kernel_rfl
def rv76 : List RV := [(.tmp 2)]
theorem rvq76 : Go.Proofs.Try.f76.results.toList.mapM (resRV Go.Proofs.Try.prog) = some rv76 := by kernel_rfl

/- pagecache/lru.without$1 -/
def rc83 : RC :=
  (.seq
  (.reg [⟨(some 3), none, (.mv (.c (.bool false)))⟩] [])
  (.seq
  (.reg [⟨(some 4), none, (.mv (.t 0))⟩,
    ⟨(some 5), none, (.ld false 1 (.t 1))⟩,
    ⟨(some 6), none, (.bin .eql (.t 4) (.t 5))⟩,
    ⟨(some 3), none, (.mv (.t 6))⟩] [4, 5, 6])
  .ret))
theorem rcq83 : resC Go.Proofs.Try.prog Go.Proofs.Try.f83.ntmps ((Go.Proofs.Try.f83.body).getD .skip) = some (strip rc83) := by kernel_rfl
def rv83 : List RV := [(.tmp 3)]
theorem rvq83 : Go.Proofs.Try.f83.results.toList.mapM (resRV Go.Proofs.Try.prog) = some rv83 := by kernel_rfl

/- pagecache/pagecacheref08.SameInts -/
def rc52 : RC :=
  (.seq
  (.reg [⟨(some 4), none, (.mv (.c (.bool false)))⟩] [])
  (.seq
  (.seq
  (.reg [⟨(some 6), none, (.mv (.t 0))⟩,
    ⟨(some 7), none, (.len (.t 6))⟩,
    ⟨(some 8), none, (.mv (.t 1))⟩,
    ⟨(some 9), none, (.len (.t 8))⟩,
    ⟨(some 10), none, (.bin .neq (.t 7) (.t 9))⟩] [6, 7, 8, 9])
  (.cond (.t 10)
   (.seq
   (.reg [⟨(some 4), none, (.mv (.c (.bool false)))⟩] [])
   .ret)
   .skip))
  (.seq
  (.seq
  (.reg [⟨(some 5), none, (.mv (.c (.int .i64 0)))⟩] [])
  (.block 0
   (.loop
    (.seq
    (.seq
    (.reg [⟨(some 11), none, (.mv (.t 5))⟩,
      ⟨(some 12), none, (.mv (.t 0))⟩,
      ⟨(some 13), none, (.len (.t 12))⟩,
      ⟨(some 14), none, (.bin .lss (.t 11) (.t 13))⟩] [11, 12, 13])
    (.cond (.t 14)
     .skip
     (.exit 0)))
    (.seq
    (.block 1
     (.seq
     (.dreg 7168 7312 [⟨(some 17), none, (.mv (.t 0))⟩,
       ⟨(some 18), none, (.mv (.t 5))⟩,
       ⟨(some 19), none, (.iaddr 1 (.t 17) (.t 18))⟩,
       ⟨(some 20), none, (.ld false 1 (.t 19))⟩,
       ⟨(some 21), none, (.mv (.t 1))⟩,
       ⟨(some 22), none, (.mv (.t 5))⟩,
       ⟨(some 23), none, (.iaddr 1 (.t 21) (.t 22))⟩,
       ⟨(some 24), none, (.ld false 1 (.t 23))⟩,
       ⟨(some 25), none, (.bin .neq (.t 20) (.t 24))⟩] [17, 18, 19, 20, 21, 22, 23, 24] [[], [], [0, 1], [2, 1, 0], [], [], [4, 5], [6, 5, 4], [3, 0, 1, 2, 7, 4, 5, 6]] [7168, 7184, 7200, 7216, 7232, 7248, 7264, 7280, 7296])
     (.cond (.t 25)
      (.seq
      (.reg [⟨(some 4), none, (.mv (.c (.bool false)))⟩] [])
      .ret)
      .skip)))
    (.reg [⟨(some 15), none, (.mv (.t 5))⟩,
      ⟨(some 16), none, (.bin .add (.t 15) (.c (.int .i64 1)))⟩,
      ⟨(some 5), none, (.mv (.t 16))⟩] [15, 16]))))))
  (.seq
  (.reg [⟨(some 4), none, (.mv (.c (.bool true)))⟩] [])
  .ret))))
theorem rcq52 : resC Go.Proofs.Try.prog Go.Proofs.Try.f52.ntmps ((Go.Proofs.Try.f52.body).getD .skip) = some (strip rc52) := by kernel_rfl
def rv52 : List RV := [(.tmp 4)]
theorem rvq52 : Go.Proofs.Try.f52.results.toList.mapM (resRV Go.Proofs.Try.prog) = some rv52 := by kernel_rfl

/-- A list without a number. -/
def wo (l : List Int) (x : Int) : List Int := l.filter (fun y => y != x)
theorem ok54 (l : List Int) (t : Bool) (x : Int) (hl : (l.length : Int) < 2 ^ 62) : FnC Try.prog 54 [] [.lst 1 t (rowsI l), .int .i64 x] (.int .i64 (idxF (fun y => y == x) l)) [] := by
  refine fn_okC (ob0 := []) (rc := rc54) (rvs := rv54) Try.func54 rfl rcq54 rvq54 (show 2 ≤ _ by decide) ?_
  generalize hk : idxF (fun y => y == x) l = q
  repeat ((conv => whnf); first | refine Cd.seq ?_ | refine Cd.cut ?_ | refine Cd.reg ?_ | refine Cd.block ?_ | refine Cd.cond ?_ | refine Cd.dreg ?_ | refine Cd.skip ?_ | refine Cd.ret ?_ | refine Cd.exit ?_ | refine Cd.loop ?_ | refine ⟨rfl, ?_⟩ | refine ⟨Nat.le_of_ble_eq_true rfl, ?_⟩ | refine ⟨.inl rfl, ?_⟩ | refine ⟨fun h => Bool.noConfusion h, ?_⟩)
  conv => whnf
  refine ⟨Nat, fun i => i ≤ l.length ∧ ∀ j (hj : j < i) (h : j < l.length), (l[j] == x) = false, fun i => ⟨[(0, ⟨[], true, .lst 1 t (rowsI l)⟩), (1, ⟨[], true, .int .i64 x⟩), (4, ⟨[], true, .int .i64 0⟩), (5, ⟨[], true, .int .i64 (i : Int)⟩)], [], 0⟩, fun i => l.length - i, ⟨0, ⟨by omega, fun j hj => by omega⟩, ?_⟩, fun i hI => ?_⟩
  · refine viewI [] rfl rfl ?_ rfl ?_ rfl ?_
    repeat' (first | exact trivial | rfl | exact .inl rfl | exact .inr rfl | exact id | exact (fun h => Bool.noConfusion h) | refine And.intro ?_ ?_)
  obtain ⟨hI1, hI2⟩ := hI
  repeat ((conv => whnf); first | refine Cd.seq ?_ | refine Cd.cut ?_ | refine Cd.reg ?_ | refine Cd.block ?_ | refine Cd.cond ?_ | refine Cd.dreg ?_ | refine Cd.skip ?_ | refine Cd.ret ?_ | refine Cd.exit ?_ | refine Cd.loop ?_ | refine ⟨rfl, ?_⟩ | refine ⟨Nat.le_of_ble_eq_true rfl, ?_⟩ | refine ⟨.inl rfl, ?_⟩ | refine ⟨fun h => Bool.noConfusion h, ?_⟩)
  conv => whnf
  rw [rowsI_len]
  refine ⟨fun h2 => ?_, fun h2 => ?_⟩ <;> try simp only [Bool.cond_true_left, Bool.cond_false_right, Bool.not_eq_true', Bool.not_eq_false', Bool.not_not] at h2
  · have h2 : i < l.length := by simp at h2; omega
    repeat ((conv => whnf); first | refine Cd.seq ?_ | refine Cd.cut ?_ | refine Cd.reg ?_ | refine Cd.block ?_ | refine Cd.cond ?_ | refine Cd.dreg ?_ | refine Cd.skip ?_ | refine Cd.ret ?_ | refine Cd.exit ?_ | refine Cd.loop ?_ | refine ⟨rfl, ?_⟩ | refine ⟨Nat.le_of_ble_eq_true rfl, ?_⟩ | refine ⟨.inl rfl, ?_⟩ | refine ⟨fun h => Bool.noConfusion h, ?_⟩)
    conv => whnf
    refine ⟨fun _ => ⟨rfl, by omega, by rw [rowsI_len]; omega⟩, ?_⟩
    rw [Int.toNat_natCast, rowsI_get l i h2]
    repeat ((conv => whnf); first | refine Cd.seq ?_ | refine Cd.cut ?_ | refine Cd.reg ?_ | refine Cd.block ?_ | refine Cd.cond ?_ | refine Cd.dreg ?_ | refine Cd.skip ?_ | refine Cd.ret ?_ | refine Cd.exit ?_ | refine Cd.loop ?_ | refine ⟨rfl, ?_⟩ | refine ⟨Nat.le_of_ble_eq_true rfl, ?_⟩ | refine ⟨.inl rfl, ?_⟩ | refine ⟨fun h => Bool.noConfusion h, ?_⟩)
    conv => whnf
    refine ⟨fun h3 => ?_, fun h3 => ?_⟩ <;> try simp only [Bool.cond_true_left, Bool.cond_false_right, Bool.not_eq_true', Bool.not_eq_false', Bool.not_not] at h3
    · have : q = i := by rw [← hk]; exact idxF_at _ l i h2 (fun j hj => hI2 j hj (by omega)) h3
      subst this
      repeat ((conv => whnf); first | refine Cd.seq ?_ | refine Cd.cut ?_ | refine Cd.reg ?_ | refine Cd.block ?_ | refine Cd.cond ?_ | refine Cd.dreg ?_ | refine Cd.skip ?_ | refine Cd.ret ?_ | refine Cd.exit ?_ | refine Cd.loop ?_ | refine ⟨rfl, ?_⟩ | refine ⟨Nat.le_of_ble_eq_true rfl, ?_⟩ | refine ⟨.inl rfl, ?_⟩ | refine ⟨fun h => Bool.noConfusion h, ?_⟩)
      conv => whnf
      refine ⟨[], ?_, rfl, trivial, rfl, ?_⟩
      · exact trivial
      try subst hk
      repeat' (first | exact trivial | rfl | exact .inl rfl | exact .inr rfl | exact id | exact (fun h => Bool.noConfusion h) | refine And.intro ?_ ?_)
    repeat ((conv => whnf); first | refine Cd.seq ?_ | refine Cd.cut ?_ | refine Cd.reg ?_ | refine Cd.block ?_ | refine Cd.cond ?_ | refine Cd.dreg ?_ | refine Cd.skip ?_ | refine Cd.ret ?_ | refine Cd.exit ?_ | refine Cd.loop ?_ | refine ⟨rfl, ?_⟩ | refine ⟨Nat.le_of_ble_eq_true rfl, ?_⟩ | refine ⟨.inl rfl, ?_⟩ | refine ⟨fun h => Bool.noConfusion h, ?_⟩)
    conv => whnf
    rw [wrapI (n := (i : Int) + 1) (by omega) (by omega), show ((i : Int) + 1) = ((i + 1 : Nat) : Int) by omega]
    refine ⟨i + 1, ⟨by omega, fun j hj h => ?_⟩, ?_, by show l.length - (i + 1) < l.length - i; omega⟩
    · by_cases e : j = i
      · subst e; exact h3
      · exact hI2 j (by omega) h
    refine viewI [] rfl rfl ?_ rfl ?_ rfl ?_
    repeat' (first | exact trivial | rfl | exact .inl rfl | exact .inr rfl | exact id | exact (fun h => Bool.noConfusion h) | refine And.intro ?_ ?_)
  have h2 : i = l.length := by simp at h2; omega
  have : q = -1 := by rw [← hk]; exact idxF_none _ l fun y hy => by obtain ⟨j, hj, rfl⟩ := List.getElem_of_mem hy; exact hI2 j (by omega) hj
  subst this
  repeat ((conv => whnf); first | refine Cd.seq ?_ | refine Cd.cut ?_ | refine Cd.reg ?_ | refine Cd.block ?_ | refine Cd.cond ?_ | refine Cd.dreg ?_ | refine Cd.skip ?_ | refine Cd.ret ?_ | refine Cd.exit ?_ | refine Cd.loop ?_ | refine ⟨rfl, ?_⟩ | refine ⟨Nat.le_of_ble_eq_true rfl, ?_⟩ | refine ⟨.inl rfl, ?_⟩ | refine ⟨fun h => Bool.noConfusion h, ?_⟩)
  conv => whnf
  refine ⟨[], ?_, rfl, trivial, rfl, ?_⟩
  · exact trivial
  try subst hk
  repeat' (first | exact trivial | rfl | exact .inl rfl | exact .inr rfl | exact id | exact (fun h => Bool.noConfusion h) | refine And.intro ?_ ?_)
theorem atM (l : List Int) (x : Int) : decide (0 ≤ idxF (fun y => y == x) l) = decide (x ∈ l) := by
  have : (fun y => y == x) = (fun y => x == y) := by funext y; rw [Bool.eq_iff_iff]; simp only [beq_iff_eq]; exact eq_comm
  rw [this]; exact hasI l x
theorem atN (l : List Int) (x : Int) : decide (idxF (fun y => y == x) l < 0) = decide (x ∉ l) := by
  have := atM l x
  rw [Bool.eq_iff_iff, decide_eq_true_eq, decide_eq_true_eq] at this
  rw [Bool.eq_iff_iff, decide_eq_true_eq, decide_eq_true_eq, ← this]
  omega
theorem ok70 (l : List Int) (t : Bool) (x : Int) (hl : l.length ≤ 100000) : FnC Try.prog 70 [] [.lst 1 t (rowsI l), .int .i64 x] (.lst 1 false (rowsI (x :: l))) [] := by
  refine fn_okC (ob0 := []) (rc := rc70) (rvs := rv70) Try.func70 rfl rcq70 rvq70 (show 2 ≤ _ by decide) ?_
  repeat ((conv => whnf); first | refine Cd.seq ?_ | refine Cd.cut ?_ | refine Cd.reg ?_ | refine Cd.block ?_ | refine Cd.cond ?_ | refine Cd.dreg ?_ | refine Cd.skip ?_ | refine Cd.ret ?_ | refine Cd.exit ?_ | refine Cd.loop ?_ | refine ⟨rfl, ?_⟩ | refine ⟨Nat.le_of_ble_eq_true rfl, ?_⟩ | refine ⟨.inl rfl, ?_⟩ | refine ⟨fun h => Bool.noConfusion h, ?_⟩)
  conv => whnf
  rw [rowsI_len]
  refine ⟨by show ((1 + l.length : Nat) : Int) ≤ _; omega, by show (1 + l.length) * 8 ≤ _; omega, ?_⟩
  repeat ((conv => whnf); first | refine Cd.seq ?_ | refine Cd.cut ?_ | refine Cd.reg ?_ | refine Cd.block ?_ | refine Cd.cond ?_ | refine Cd.dreg ?_ | refine Cd.skip ?_ | refine Cd.ret ?_ | refine Cd.exit ?_ | refine Cd.loop ?_ | refine ⟨rfl, ?_⟩ | refine ⟨Nat.le_of_ble_eq_true rfl, ?_⟩ | refine ⟨.inl rfl, ?_⟩ | refine ⟨fun h => Bool.noConfusion h, ?_⟩)
  conv => whnf
  refine ⟨[], ?_, rfl, trivial, rfl, ?_⟩
  · exact trivial
  try subst hk
  repeat' (first | exact trivial | rfl | exact .inl rfl | exact .inr rfl | exact id | exact (fun h => Bool.noConfusion h) | refine And.intro ?_ ?_)
  · show 0 + (1 + l.length) ≤ ([[V.int .i64 x]] ++ rowsI l).length
    rw [List.length_append, rowsI_len]; simp
  · show List.take (1 + l.length) (List.drop 0 ([[V.int .i64 x]] ++ rowsI l)) = rowsI (x :: l)
    exact take0 (by rw [List.length_append, rowsI_len]; simp)
def knownB (f : Int) : Bool := decide (1 ≤ f) && decide (f ≤ 64)
theorem ok76 (f : Int) : FnC Try.prog 76 [] [.int .i64 f] (.bool (knownB f)) [] := by
  refine fn_okC (ob0 := []) (rc := rc76) (rvs := rv76) Try.func76 rfl rcq76 rvq76 (show 1 ≤ _ by decide) ?_
  repeat ((conv => whnf); first | refine Cd.seq ?_ | refine Cd.cut ?_ | refine Cd.reg ?_ | refine Cd.block ?_ | refine Cd.cond ?_ | refine Cd.dreg ?_ | refine Cd.skip ?_ | refine Cd.ret ?_ | refine Cd.exit ?_ | refine Cd.loop ?_ | refine ⟨rfl, ?_⟩ | refine ⟨Nat.le_of_ble_eq_true rfl, ?_⟩ | refine ⟨.inl rfl, ?_⟩ | refine ⟨fun h => Bool.noConfusion h, ?_⟩)
  conv => whnf
  refine ⟨[], ?_, rfl, trivial, rfl, ?_⟩
  · exact trivial
  try subst hk
  repeat' (first | exact trivial | rfl | exact .inl rfl | exact .inr rfl | exact id | exact (fun h => Bool.noConfusion h) | refine And.intro ?_ ?_)
  unfold knownB; cases decide (1 ≤ f) <;> rfl
theorem ok83 (y x : Int) : FnC Try.prog 83 [] [.int .i64 y, .rp 1 [.int .i64 x] 0] (.bool (y == x)) [] := by
  refine fn_okC (ob0 := []) (rc := rc83) (rvs := rv83) Try.func83 rfl rcq83 rvq83 (show 2 ≤ _ by decide) ?_
  repeat ((conv => whnf); first | refine Cd.seq ?_ | refine Cd.cut ?_ | refine Cd.reg ?_ | refine Cd.block ?_ | refine Cd.cond ?_ | refine Cd.dreg ?_ | refine Cd.skip ?_ | refine Cd.ret ?_ | refine Cd.exit ?_ | refine Cd.loop ?_ | refine ⟨rfl, ?_⟩ | refine ⟨Nat.le_of_ble_eq_true rfl, ?_⟩ | refine ⟨.inl rfl, ?_⟩ | refine ⟨fun h => Bool.noConfusion h, ?_⟩)
  conv => whnf
  refine ⟨[], ?_, rfl, trivial, rfl, ?_⟩
  · exact trivial
  try subst hk
  repeat' (first | exact trivial | rfl | exact .inl rfl | exact .inr rfl | exact id | exact (fun h => Bool.noConfusion h) | refine And.intro ?_ ?_)
theorem call83 : Callable Try.prog 83 := ⟨_, Try.func83, rfl, rfl⟩
theorem ok52 (a b : List Int) (ta tb : Bool) (ha : (a.length : Int) < 2 ^ 62) (hb : (b.length : Int) < 2 ^ 62) : FnC Try.prog 52 [] [.lst 1 ta (rowsI a), .lst 1 tb (rowsI b)] (.bool (decide (a = b))) [] := by
  refine fn_okC (ob0 := []) (rc := rc52) (rvs := rv52) Try.func52 rfl rcq52 rvq52 (show 2 ≤ _ by decide) ?_
  generalize hk : decide (a = b) = q
  repeat ((conv => whnf); first | refine Cd.seq ?_ | refine Cd.cut ?_ | refine Cd.reg ?_ | refine Cd.block ?_ | refine Cd.cond ?_ | refine Cd.dreg ?_ | refine Cd.skip ?_ | refine Cd.ret ?_ | refine Cd.exit ?_ | refine Cd.loop ?_ | refine ⟨rfl, ?_⟩ | refine ⟨Nat.le_of_ble_eq_true rfl, ?_⟩ | refine ⟨.inl rfl, ?_⟩ | refine ⟨fun h => Bool.noConfusion h, ?_⟩)
  conv => whnf
  rw [rowsI_len, rowsI_len]
  refine ⟨fun h1 => ?_, fun h1 => ?_⟩ <;> try simp only [Bool.cond_true_left, Bool.cond_false_right, Bool.not_eq_true', Bool.not_eq_false', Bool.not_not] at h1
  · have h1 : a.length ≠ b.length := by simp at h1; omega
    have : q = false := by rw [← hk, decide_eq_false_iff_not]; rintro rfl; exact h1 rfl
    subst this
    repeat ((conv => whnf); first | refine Cd.seq ?_ | refine Cd.cut ?_ | refine Cd.reg ?_ | refine Cd.block ?_ | refine Cd.cond ?_ | refine Cd.dreg ?_ | refine Cd.skip ?_ | refine Cd.ret ?_ | refine Cd.exit ?_ | refine Cd.loop ?_ | refine ⟨rfl, ?_⟩ | refine ⟨Nat.le_of_ble_eq_true rfl, ?_⟩ | refine ⟨.inl rfl, ?_⟩ | refine ⟨fun h => Bool.noConfusion h, ?_⟩)
    conv => whnf
    refine ⟨[], ?_, rfl, trivial, rfl, ?_⟩
    · exact trivial
    try subst hk
    repeat' (first | exact trivial | rfl | exact .inl rfl | exact .inr rfl | exact id | exact (fun h => Bool.noConfusion h) | refine And.intro ?_ ?_)
  have h1 : a.length = b.length := by simp at h1; omega
  repeat ((conv => whnf); first | refine Cd.seq ?_ | refine Cd.cut ?_ | refine Cd.reg ?_ | refine Cd.block ?_ | refine Cd.cond ?_ | refine Cd.dreg ?_ | refine Cd.skip ?_ | refine Cd.ret ?_ | refine Cd.exit ?_ | refine Cd.loop ?_ | refine ⟨rfl, ?_⟩ | refine ⟨Nat.le_of_ble_eq_true rfl, ?_⟩ | refine ⟨.inl rfl, ?_⟩ | refine ⟨fun h => Bool.noConfusion h, ?_⟩)
  conv => whnf
  refine ⟨Nat, fun i => i ≤ a.length ∧ ∀ j (h : j < a.length) (h' : j < b.length), j < i → a[j] = b[j], fun i => ⟨[(0, ⟨[], true, .lst 1 ta (rowsI a)⟩), (1, ⟨[], true, .lst 1 tb (rowsI b)⟩), (5, ⟨[], true, .int .i64 (i : Int)⟩)], [], 0⟩, fun i => a.length - i, ⟨0, ⟨by omega, fun j _ _ h => by omega⟩, ?_⟩, fun i hI => ?_⟩
  · refine viewI [] rfl rfl ?_ rfl ?_ rfl ?_
    repeat' (first | exact trivial | rfl | exact .inl rfl | exact .inr rfl | exact id | exact (fun h => Bool.noConfusion h) | refine And.intro ?_ ?_)
  obtain ⟨hI1, hI2⟩ := hI
  repeat ((conv => whnf); first | refine Cd.seq ?_ | refine Cd.cut ?_ | refine Cd.reg ?_ | refine Cd.block ?_ | refine Cd.cond ?_ | refine Cd.dreg ?_ | refine Cd.skip ?_ | refine Cd.ret ?_ | refine Cd.exit ?_ | refine Cd.loop ?_ | refine ⟨rfl, ?_⟩ | refine ⟨Nat.le_of_ble_eq_true rfl, ?_⟩ | refine ⟨.inl rfl, ?_⟩ | refine ⟨fun h => Bool.noConfusion h, ?_⟩)
  conv => whnf
  rw [rowsI_len]
  refine ⟨fun h2 => ?_, fun h2 => ?_⟩ <;> try simp only [Bool.cond_true_left, Bool.cond_false_right, Bool.not_eq_true', Bool.not_eq_false', Bool.not_not] at h2
  · have h2 : i < a.length := by simp at h2; omega
    have h2' : i < b.length := by omega
    repeat ((conv => whnf); first | refine Cd.seq ?_ | refine Cd.cut ?_ | refine Cd.reg ?_ | refine Cd.block ?_ | refine Cd.cond ?_ | refine Cd.dreg ?_ | refine Cd.skip ?_ | refine Cd.ret ?_ | refine Cd.exit ?_ | refine Cd.loop ?_ | refine ⟨rfl, ?_⟩ | refine ⟨Nat.le_of_ble_eq_true rfl, ?_⟩ | refine ⟨.inl rfl, ?_⟩ | refine ⟨fun h => Bool.noConfusion h, ?_⟩)
    conv => whnf
    refine ⟨fun _ => ⟨rfl, by omega, by rw [rowsI_len]; omega⟩, ?_⟩
    rw [Int.toNat_natCast, rowsI_get a i h2]
    repeat ((conv => whnf); first | refine Cd.seq ?_ | refine Cd.cut ?_ | refine Cd.reg ?_ | refine Cd.block ?_ | refine Cd.cond ?_ | refine Cd.dreg ?_ | refine Cd.skip ?_ | refine Cd.ret ?_ | refine Cd.exit ?_ | refine Cd.loop ?_ | refine ⟨rfl, ?_⟩ | refine ⟨Nat.le_of_ble_eq_true rfl, ?_⟩ | refine ⟨.inl rfl, ?_⟩ | refine ⟨fun h => Bool.noConfusion h, ?_⟩)
    conv => whnf
    refine ⟨fun _ => ⟨rfl, by omega, by rw [rowsI_len]; omega⟩, ?_⟩
    rw [Int.toNat_natCast, rowsI_get b i h2']
    repeat ((conv => whnf); first | refine Cd.seq ?_ | refine Cd.cut ?_ | refine Cd.reg ?_ | refine Cd.block ?_ | refine Cd.cond ?_ | refine Cd.dreg ?_ | refine Cd.skip ?_ | refine Cd.ret ?_ | refine Cd.exit ?_ | refine Cd.loop ?_ | refine ⟨rfl, ?_⟩ | refine ⟨Nat.le_of_ble_eq_true rfl, ?_⟩ | refine ⟨.inl rfl, ?_⟩ | refine ⟨fun h => Bool.noConfusion h, ?_⟩)
    conv => whnf
    refine ⟨fun h3 => ?_, fun h3 => ?_⟩ <;> try simp only [Bool.cond_true_left, Bool.cond_false_right, Bool.not_eq_true', Bool.not_eq_false', Bool.not_not] at h3
    · have : q = false := by rw [← hk, decide_eq_false_iff_not]; rintro rfl; simp at h3
      subst this
      repeat ((conv => whnf); first | refine Cd.seq ?_ | refine Cd.cut ?_ | refine Cd.reg ?_ | refine Cd.block ?_ | refine Cd.cond ?_ | refine Cd.dreg ?_ | refine Cd.skip ?_ | refine Cd.ret ?_ | refine Cd.exit ?_ | refine Cd.loop ?_ | refine ⟨rfl, ?_⟩ | refine ⟨Nat.le_of_ble_eq_true rfl, ?_⟩ | refine ⟨.inl rfl, ?_⟩ | refine ⟨fun h => Bool.noConfusion h, ?_⟩)
      conv => whnf
      refine ⟨[], ?_, rfl, trivial, rfl, ?_⟩
      · exact trivial
      try subst hk
      repeat' (first | exact trivial | rfl | exact .inl rfl | exact .inr rfl | exact id | exact (fun h => Bool.noConfusion h) | refine And.intro ?_ ?_)
    have h3 : a[i] = b[i] := by simpa using h3
    repeat ((conv => whnf); first | refine Cd.seq ?_ | refine Cd.cut ?_ | refine Cd.reg ?_ | refine Cd.block ?_ | refine Cd.cond ?_ | refine Cd.dreg ?_ | refine Cd.skip ?_ | refine Cd.ret ?_ | refine Cd.exit ?_ | refine Cd.loop ?_ | refine ⟨rfl, ?_⟩ | refine ⟨Nat.le_of_ble_eq_true rfl, ?_⟩ | refine ⟨.inl rfl, ?_⟩ | refine ⟨fun h => Bool.noConfusion h, ?_⟩)
    conv => whnf
    rw [wrapI (n := (i : Int) + 1) (by omega) (by omega), show ((i : Int) + 1) = ((i + 1 : Nat) : Int) by omega]
    refine ⟨i + 1, ⟨by omega, fun j h h' hj => ?_⟩, ?_, by show a.length - (i + 1) < a.length - i; omega⟩
    · by_cases e : j = i
      · subst e; exact h3
      · exact hI2 j h h' (by omega)
    refine viewI [] rfl rfl ?_ rfl ?_ rfl ?_
    repeat' (first | exact trivial | rfl | exact .inl rfl | exact .inr rfl | exact id | exact (fun h => Bool.noConfusion h) | refine And.intro ?_ ?_)
  have h2 : i = a.length := by simp at h2; omega
  have : q = true := by
    rw [← hk, decide_eq_true_eq]
    exact List.ext_getElem h1 fun j h h' => hI2 j h h' (by omega)
  subst this
  repeat ((conv => whnf); first | refine Cd.seq ?_ | refine Cd.cut ?_ | refine Cd.reg ?_ | refine Cd.block ?_ | refine Cd.cond ?_ | refine Cd.dreg ?_ | refine Cd.skip ?_ | refine Cd.ret ?_ | refine Cd.exit ?_ | refine Cd.loop ?_ | refine ⟨rfl, ?_⟩ | refine ⟨Nat.le_of_ble_eq_true rfl, ?_⟩ | refine ⟨.inl rfl, ?_⟩ | refine ⟨fun h => Bool.noConfusion h, ?_⟩)
  conv => whnf
  refine ⟨[], ?_, rfl, trivial, rfl, ?_⟩
  · exact trivial
  try subst hk
  repeat' (first | exact trivial | rfl | exact .inl rfl | exact .inr rfl | exact id | exact (fun h => Bool.noConfusion h) | refine And.intro ?_ ?_)
end Go.Proofs.Ytcifhjkodbaghaa

namespace Go.Proofs.Ytcifhjkodbaghaa
open Go Go.Sk Go.RowKit

/- pagecache/pagecacheref08.Without -/
def rc72 : RC :=
  (.seq
  (.reg [⟨(some 4), none, (.mv (.c (.lst 0 true [])))⟩] [])
  (.seq
  (.reg [⟨(some 5), none, (.mv (.c (.lst 0 true [])))⟩] [])
  (.seq
  (.seq
  (.reg [⟨(some 6), none, (.mv (.c (.int .i64 0)))⟩] [])
  (.block 0
   (.loop
    (.seq
    (.seq
    (.reg [⟨(some 7), none, (.mv (.t 6))⟩,
      ⟨(some 8), none, (.mv (.t 0))⟩,
      ⟨(some 9), none, (.len (.t 8))⟩,
      ⟨(some 10), none, (.bin .lss (.t 7) (.t 9))⟩] [7, 8, 9])
    (.cond (.t 10)
     .skip
     (.exit 0)))
    (.seq
    (.block 1
     (.seq
     (.reg [⟨(some 13), none, (.mv (.t 0))⟩,
       ⟨(some 14), none, (.mv (.t 6))⟩,
       ⟨(some 15), none, (.iaddr 1 (.t 13) (.t 14))⟩,
       ⟨(some 16), none, (.ld false 1 (.t 15))⟩,
       ⟨(some 17), none, (.mv (.t 1))⟩,
       ⟨(some 18), none, (.bin .neq (.t 16) (.t 17))⟩] [13, 14, 15, 16, 17])
     (.cond (.t 18)
      (.reg [⟨(some 19), none, (.mv (.t 5))⟩,
        ⟨(some 20), none, (.mv (.t 0))⟩,
        ⟨(some 21), none, (.mv (.t 6))⟩,
        ⟨(some 22), none, (.iaddr 1 (.t 20) (.t 21))⟩,
        ⟨(some 23), none, (.ld false 1 (.t 22))⟩,
        ⟨(some 24), none, (.bslice 1 [(.int .i64 0)] 1 [(0, (.t 23))])⟩,
        ⟨(some 25), none, (.app 1 8 (.t 19) (.t 24))⟩,
        ⟨(some 5), none, (.mv (.t 25))⟩] [19, 20, 21, 22, 23, 24, 25])
      .skip)))
    (.reg [⟨(some 11), none, (.mv (.t 6))⟩,
      ⟨(some 12), none, (.bin .add (.t 11) (.c (.int .i64 1)))⟩,
      ⟨(some 6), none, (.mv (.t 12))⟩] [11, 12]))))))
  (.seq
  (.reg [⟨(some 26), none, (.mv (.t 5))⟩,
    ⟨(some 4), none, (.mv (.t 26))⟩] [26])
  .ret))))
theorem rcq72 : resC Go.Proofs.Try.prog Go.Proofs.Try.f72.ntmps ((Go.Proofs.Try.f72.body).getD .skip) = some (strip rc72) := by kernel_rfl
def rv72 : List RV := [(.tmp 4)]
theorem rvq72 : Go.Proofs.Try.f72.results.toList.mapM (resRV Go.Proofs.Try.prog) = some rv72 := by kernel_rfl

/- pagecache/pagecacheref08.insert -/
def rc74 : RC :=
  (.seq
  (.reg [⟨(some 4), none, (.mv (.c (.lst 0 true [])))⟩] [])
  (.seq
  (.reg [⟨(some 5), none, (.mv (.c (.lst 0 true [])))⟩] [])
  (.seq
  (.reg [⟨(some 6), none, (.mv (.c (.bool false)))⟩] [])
  (.seq
  (.seq
  (.reg [⟨(some 7), none, (.mv (.c (.int .i64 0)))⟩] [])
  (.block 0
   (.loop
    (.seq
    (.seq
    (.reg [⟨(some 8), none, (.mv (.t 7))⟩,
      ⟨(some 9), none, (.mv (.t 0))⟩,
      ⟨(some 10), none, (.len (.t 9))⟩,
      ⟨(some 11), none, (.bin .lss (.t 8) (.t 10))⟩] [8, 9, 10])
    (.cond (.t 11)
     .skip
     (.exit 0)))
    (.seq
    (.block 1
     (.cut
     (.seq
     (.reg [⟨(some 14), none, (.mv (.t 6))⟩,
       ⟨(some 15), none, (.un .not (.t 14))⟩,
       ⟨(some 16), none, (.mv (.t 15))⟩,
       ⟨(some 17), (some (16, true)), (.mv (.t 0))⟩,
       ⟨(some 18), (some (16, true)), (.mv (.t 7))⟩,
       ⟨(some 19), (some (16, true)), (.iaddr 1 (.t 17) (.t 18))⟩,
       ⟨(some 20), (some (16, true)), (.ld false 1 (.t 19))⟩,
       ⟨(some 21), (some (16, true)), (.mv (.t 1))⟩,
       ⟨(some 22), (some (16, true)), (.bin .gtr (.t 20) (.t 21))⟩,
       ⟨(some 23), none, (.pick (.t 16) (.t 22) (.c (.bool false)))⟩] [14, 15, 16, 17, 18, 19, 20, 21, 22])
     (.cond (.t 23)
      (.seq
      (.reg [⟨(some 24), none, (.mv (.t 5))⟩,
        ⟨(some 25), none, (.mv (.t 1))⟩,
        ⟨(some 26), none, (.bslice 1 [(.int .i64 0)] 1 [(0, (.t 25))])⟩,
        ⟨(some 27), none, (.app 1 8 (.t 24) (.t 26))⟩,
        ⟨(some 5), none, (.mv (.t 27))⟩] [24, 25, 26, 27])
      (.reg [⟨(some 6), none, (.mv (.c (.bool true)))⟩] []))
      .skip))
     (.reg [⟨(some 28), none, (.mv (.t 5))⟩,
       ⟨(some 29), none, (.mv (.t 0))⟩,
       ⟨(some 30), none, (.mv (.t 7))⟩,
       ⟨(some 31), none, (.iaddr 1 (.t 29) (.t 30))⟩,
       ⟨(some 32), none, (.ld false 1 (.t 31))⟩,
       ⟨(some 33), none, (.bslice 1 [(.int .i64 0)] 1 [(0, (.t 32))])⟩,
       ⟨(some 34), none, (.app 1 8 (.t 28) (.t 33))⟩,
       ⟨(some 5), none, (.mv (.t 34))⟩] [28, 29, 30, 31, 32, 33, 34])))
    (.reg [⟨(some 12), none, (.mv (.t 7))⟩,
      ⟨(some 13), none, (.bin .add (.t 12) (.c (.int .i64 1)))⟩,
      ⟨(some 7), none, (.mv (.t 13))⟩] [12, 13]))))))
  (.cut
  (.seq
  (.reg [⟨(some 35), none, (.mv (.t 6))⟩,
    ⟨(some 36), none, (.un .not (.t 35))⟩] [35])
  (.cond (.t 36)
   (.reg [⟨(some 37), none, (.mv (.t 5))⟩,
     ⟨(some 38), none, (.mv (.t 1))⟩,
     ⟨(some 39), none, (.bslice 1 [(.int .i64 0)] 1 [(0, (.t 38))])⟩,
     ⟨(some 40), none, (.app 1 8 (.t 37) (.t 39))⟩,
     ⟨(some 5), none, (.mv (.t 40))⟩] [37, 38, 39, 40])
   .skip))
  (.seq
  (.reg [⟨(some 41), none, (.mv (.t 5))⟩,
    ⟨(some 4), none, (.mv (.t 41))⟩] [41])
  .ret))))))
theorem rcq74 : resC Go.Proofs.Try.prog Go.Proofs.Try.f74.ntmps ((Go.Proofs.Try.f74.body).getD .skip) = some (strip rc74) := by kernel_rfl
def rv74 : List RV := [(.tmp 4)]
theorem rvq74 : Go.Proofs.Try.f74.results.toList.mapM (resRV Go.Proofs.Try.prog) = some rv74 := by kernel_rfl

theorem wo_nil (x : Int) : wo [] x = [] := rfl
theorem wo_len (l : List Int) (x : Int) : (wo l x).length ≤ l.length := List.length_filter_le _ _
theorem mem_wo {l : List Int} {x y : Int} : y ∈ wo l x ↔ y ∈ l ∧ y ≠ x := by simp [wo]
theorem wo_keep {l : List Int} {x : Int} {i : Nat} (h : i < l.length) (hx : l[i] ≠ x) : wo (l.take (i + 1)) x = wo (l.take i) x ++ [l[i]] := by
  rw [List.take_succ_eq_append_getElem h, wo, wo, List.filter_append]
  simp [hx]
theorem wo_skip {l : List Int} {x : Int} {i : Nat} (h : i < l.length) (hx : l[i] = x) : wo (l.take (i + 1)) x = wo (l.take i) x := by
  rw [List.take_succ_eq_append_getElem h, wo, wo, List.filter_append]
  simp [hx]
theorem wo_none {l : List Int} {x : Int} (h : x ∉ l) : wo l x = l := by
  rw [wo, List.filter_eq_self]
  intro y hy
  simp only [bne_iff_ne]
  rintro rfl; exact h hy
theorem wo_take_len (l : List Int) (x : Int) (i : Nat) : (wo (l.take i) x).length ≤ i := Nat.le_trans (wo_len _ _) (by simp; omega)
set_option maxRecDepth 20000 in
theorem ok72 (l : List Int) (t : Bool) (x : Int) (hl : l.length ≤ 100000) : FnC Try.prog 72 [] [.lst 1 t (rowsI l), .int .i64 x] (.lst 1 false (rowsI (wo l x))) [] := by
  refine fn_okC (ob0 := []) (rc := rc72) (rvs := rv72) Try.func72 rfl rcq72 rvq72 (show 2 ≤ _ by decide) ?_
  generalize hk : wo l x = q
  repeat ((conv => whnf); first | refine Cd.seq ?_ | refine Cd.cut ?_ | refine Cd.reg ?_ | refine Cd.block ?_ | refine Cd.cond ?_ | refine Cd.dreg ?_ | refine Cd.skip ?_ | refine Cd.ret ?_ | refine Cd.exit ?_ | refine Cd.loop ?_ | refine ⟨rfl, ?_⟩ | refine ⟨Nat.le_of_ble_eq_true rfl, ?_⟩ | refine ⟨.inl rfl, ?_⟩ | refine ⟨fun h => Bool.noConfusion h, ?_⟩)
  conv => whnf
  refine ⟨Nat, fun i => i ≤ l.length, fun i => ⟨[(0, ⟨[], true, .lst 1 t (rowsI l)⟩), (1, ⟨[], true, .int .i64 x⟩), (5, ⟨[], true, .sl 0 0 (wo (l.take i) x).length⟩), (6, ⟨[], true, .int .i64 (i : Int)⟩)], [(0, .row 1 (rowsI (wo (l.take i) x)))], 1⟩, fun i => l.length - i, ⟨0, by omega, ?_⟩, fun i hI => ?_⟩
  · refine viewI [none] rfl rfl ?_ rfl ?_ rfl ?_
    repeat' (first | exact trivial | rfl | exact .inl rfl | exact .inr rfl | exact id | exact (fun h => Bool.noConfusion h) | refine And.intro ?_ ?_)
  have hI : i ≤ l.length := hI
  have hwl := wo_take_len l x i
  repeat ((conv => whnf); first | refine Cd.seq ?_ | refine Cd.cut ?_ | refine Cd.reg ?_ | refine Cd.block ?_ | refine Cd.cond ?_ | refine Cd.dreg ?_ | refine Cd.skip ?_ | refine Cd.ret ?_ | refine Cd.exit ?_ | refine Cd.loop ?_ | refine ⟨rfl, ?_⟩ | refine ⟨Nat.le_of_ble_eq_true rfl, ?_⟩ | refine ⟨.inl rfl, ?_⟩ | refine ⟨fun h => Bool.noConfusion h, ?_⟩)
  conv => whnf
  rw [rowsI_len]
  refine ⟨fun h2 => ?_, fun h2 => ?_⟩ <;> try simp only [Bool.cond_true_left, Bool.cond_false_right, Bool.not_eq_true', Bool.not_eq_false', Bool.not_not] at h2
  · have h2 : i < l.length := by simp at h2; omega
    have hw : IntKind.i64.wrap ((i : Int) + 1) = ((i + 1 : Nat) : Int) := by rw [wrapI (by omega) (by omega)]; omega
    have hkeep := wo_keep (x := x) h2
    have hskip := wo_skip (x := x) h2
    repeat ((conv => whnf); first | refine Cd.seq ?_ | refine Cd.cut ?_ | refine Cd.reg ?_ | refine Cd.block ?_ | refine Cd.cond ?_ | refine Cd.dreg ?_ | refine Cd.skip ?_ | refine Cd.ret ?_ | refine Cd.exit ?_ | refine Cd.loop ?_ | refine ⟨rfl, ?_⟩ | refine ⟨Nat.le_of_ble_eq_true rfl, ?_⟩ | refine ⟨.inl rfl, ?_⟩ | refine ⟨fun h => Bool.noConfusion h, ?_⟩)
    conv => whnf
    refine ⟨fun _ => ⟨rfl, by omega, by rw [rowsI_len]; omega⟩, ?_⟩
    rw [Int.toNat_natCast, rowsI_get l i h2]
    repeat ((conv => whnf); first | refine Cd.seq ?_ | refine Cd.cut ?_ | refine Cd.reg ?_ | refine Cd.block ?_ | refine Cd.cond ?_ | refine Cd.dreg ?_ | refine Cd.skip ?_ | refine Cd.ret ?_ | refine Cd.exit ?_ | refine Cd.loop ?_ | refine ⟨rfl, ?_⟩ | refine ⟨Nat.le_of_ble_eq_true rfl, ?_⟩ | refine ⟨.inl rfl, ?_⟩ | refine ⟨fun h => Bool.noConfusion h, ?_⟩)
    conv => whnf
    generalize hout : wo (l.take i) x = out at hwl hkeep hskip ⊢
    refine ⟨fun h3 => ?_, fun h3 => ?_⟩ <;> try simp only [Bool.cond_true_left, Bool.cond_false_right, Bool.not_eq_true', Bool.not_eq_false', Bool.not_not] at h3
    · have h3 : l[i] ≠ x := by simpa using h3
      have hkeep := hkeep h3
      repeat ((conv => whnf); first | refine Cd.seq ?_ | refine Cd.cut ?_ | refine Cd.reg ?_ | refine Cd.block ?_ | refine Cd.cond ?_ | refine Cd.dreg ?_ | refine Cd.skip ?_ | refine Cd.ret ?_ | refine Cd.exit ?_ | refine Cd.loop ?_ | refine ⟨rfl, ?_⟩ | refine ⟨Nat.le_of_ble_eq_true rfl, ?_⟩ | refine ⟨.inl rfl, ?_⟩ | refine ⟨fun h => Bool.noConfusion h, ?_⟩)
      conv => whnf
      refine ⟨fun _ => ⟨rfl, by omega, by rw [rowsI_len]; omega⟩, ?_⟩
      rw [Int.toNat_natCast, rowsI_get l i h2]
      repeat ((conv => whnf); first | refine Cd.seq ?_ | refine Cd.cut ?_ | refine Cd.reg ?_ | refine Cd.block ?_ | refine Cd.cond ?_ | refine Cd.dreg ?_ | refine Cd.skip ?_ | refine Cd.ret ?_ | refine Cd.exit ?_ | refine Cd.loop ?_ | refine ⟨rfl, ?_⟩ | refine ⟨Nat.le_of_ble_eq_true rfl, ?_⟩ | refine ⟨.inl rfl, ?_⟩ | refine ⟨fun h => Bool.noConfusion h, ?_⟩)
      conv => whnf
      refine ⟨(rowsI_len out).symm, by show (((rowsI out).length + 1 : Nat) : Int) ≤ _; rw [rowsI_len]; omega, by show ((rowsI out).length + 1) * 8 ≤ _; rw [rowsI_len]; omega, ?_⟩
      repeat ((conv => whnf); first | refine Cd.seq ?_ | refine Cd.cut ?_ | refine Cd.reg ?_ | refine Cd.block ?_ | refine Cd.cond ?_ | refine Cd.dreg ?_ | refine Cd.skip ?_ | refine Cd.ret ?_ | refine Cd.exit ?_ | refine Cd.loop ?_ | refine ⟨rfl, ?_⟩ | refine ⟨Nat.le_of_ble_eq_true rfl, ?_⟩ | refine ⟨.inl rfl, ?_⟩ | refine ⟨fun h => Bool.noConfusion h, ?_⟩)
      conv => whnf
      rw [hw]
      refine ⟨i + 1, by show i + 1 ≤ _; omega, ?_, by show l.length - (i + 1) < l.length - i; omega⟩
      dsimp only
      rw [hkeep]
      refine viewI [some ?k64_0] rfl rfl ?h3_64 ?h4_64 ?h5_64 ?h6_64 ?h7_64
      case' h7_64 => repeat' (first | exact trivial | rfl | exact .inl rfl | exact .inr rfl | exact id | exact (fun h => Bool.noConfusion h) | refine And.intro ?_ ?_)
      case' h4_64 => rfl
      case' h6_64 => rfl
      case' h3_64 => repeat' (first | exact trivial | rfl | exact .inl rfl | exact .inr rfl | exact id | exact (fun h => Bool.noConfusion h) | refine And.intro ?_ ?_)
      case' h5_64 => repeat' (first | exact trivial | rfl | exact .inl rfl | exact .inr rfl | exact id | exact (fun h => Bool.noConfusion h) | refine And.intro ?_ ?_)
      · exact rowsI_snoc out _
      · show (rowsI out).length + 1 = _
        rw [rowsI_len, List.length_append]; rfl
    have h3 : l[i] = x := by simpa using h3
    have hskip := hskip h3
    repeat ((conv => whnf); first | refine Cd.seq ?_ | refine Cd.cut ?_ | refine Cd.reg ?_ | refine Cd.block ?_ | refine Cd.cond ?_ | refine Cd.dreg ?_ | refine Cd.skip ?_ | refine Cd.ret ?_ | refine Cd.exit ?_ | refine Cd.loop ?_ | refine ⟨rfl, ?_⟩ | refine ⟨Nat.le_of_ble_eq_true rfl, ?_⟩ | refine ⟨.inl rfl, ?_⟩ | refine ⟨fun h => Bool.noConfusion h, ?_⟩)
    conv => whnf
    rw [hw]
    refine ⟨i + 1, by show i + 1 ≤ _; omega, ?_, by show l.length - (i + 1) < l.length - i; omega⟩
    dsimp only
    rw [hskip]
    refine viewI [some 0] rfl rfl ?_ rfl ?_ rfl ?_
    repeat' (first | exact trivial | rfl | exact .inl rfl | exact .inr rfl | exact id | exact (fun h => Bool.noConfusion h) | refine And.intro ?_ ?_)
  have h2 : i = l.length := by simp at h2; omega
  subst h2
  rw [List.take_length, hk]
  repeat ((conv => whnf); first | refine Cd.seq ?_ | refine Cd.cut ?_ | refine Cd.reg ?_ | refine Cd.block ?_ | refine Cd.cond ?_ | refine Cd.dreg ?_ | refine Cd.skip ?_ | refine Cd.ret ?_ | refine Cd.exit ?_ | refine Cd.loop ?_ | refine ⟨rfl, ?_⟩ | refine ⟨Nat.le_of_ble_eq_true rfl, ?_⟩ | refine ⟨.inl rfl, ?_⟩ | refine ⟨fun h => Bool.noConfusion h, ?_⟩)
  conv => whnf
  refine ⟨[], ?_, rfl, trivial, rfl, ?_⟩
  · exact trivial
  try subst hk
  repeat' (first | exact trivial | rfl | exact .inl rfl | exact .inr rfl | exact id | exact (fun h => Bool.noConfusion h) | refine And.intro ?_ ?_)
  · show 0 + (wo l x).length ≤ _
    rw [rowsI_len]; omega
  · exact take0 (rowsI_len _)
set_option maxRecDepth 20000 in
set_option maxHeartbeats 1000000 in
theorem ok74 (l : List Int) (t : Bool) (f : Int) (hl : l.length ≤ 100000) (hn : f ∉ l) : FnC Try.prog 74 [] [.lst 1 t (rowsI l), .int .i64 f] (.lst 1 false (rowsI (insI l (atI l f) f))) [] := by
  have hpl := atI_le l f
  refine fn_okC (ob0 := []) (rc := rc74) (rvs := rv74) Try.func74 rfl rcq74 rvq74 (show 2 ≤ _ by decide) ?_
  repeat ((conv => whnf); first | refine Cd.seq ?_ | refine Cd.cut ?_ | refine Cd.reg ?_ | refine Cd.block ?_ | refine Cd.cond ?_ | refine Cd.dreg ?_ | refine Cd.skip ?_ | refine Cd.ret ?_ | refine Cd.exit ?_ | refine Cd.loop ?_ | refine ⟨rfl, ?_⟩ | refine ⟨Nat.le_of_ble_eq_true rfl, ?_⟩ | refine ⟨.inl rfl, ?_⟩ | refine ⟨fun h => Bool.noConfusion h, ?_⟩)
  conv => whnf
  refine ⟨Nat × List Int, fun y => y.1 ≤ l.length ∧ y.2 = accA l f y.1, fun y => ⟨[(0, ⟨[], true, .lst 1 t (rowsI l)⟩), (1, ⟨[], true, .int .i64 f⟩), (5, ⟨[], true, .sl 0 0 y.2.length⟩), (6, ⟨[], true, .bool (decide (atI l f < y.1))⟩), (7, ⟨[], true, .int .i64 (y.1 : Int)⟩)],
    [(0, .row 1 (rowsI y.2))], 1⟩, fun y => l.length - y.1, ⟨(0, []), ⟨by simp, by show [] = accA l f 0; rw [accA, if_pos (by omega), List.take_zero]⟩, ?_⟩, fun y hk' => ?_⟩
  · refine viewI [none] rfl rfl ?_ rfl ?_ rfl ?_
    repeat' (first | exact trivial | rfl | exact .inl rfl | exact .inr rfl | exact id | exact (fun h => Bool.noConfusion h) | refine And.intro ?_ ?_)
  obtain ⟨k, acc⟩ := y
  obtain ⟨hk1, hacc⟩ := hk'
  dsimp only at hk1 hacc ⊢
  have hal := accA_len l f k hk1
  repeat ((conv => whnf); first | refine Cd.seq ?_ | refine Cd.cut ?_ | refine Cd.reg ?_ | refine Cd.block ?_ | refine Cd.cond ?_ | refine Cd.dreg ?_ | refine Cd.skip ?_ | refine Cd.ret ?_ | refine Cd.exit ?_ | refine Cd.loop ?_ | refine ⟨rfl, ?_⟩ | refine ⟨Nat.le_of_ble_eq_true rfl, ?_⟩ | refine ⟨.inl rfl, ?_⟩ | refine ⟨fun h => Bool.noConfusion h, ?_⟩)
  conv => whnf
  rw [rowsI_len]
  refine ⟨fun h5 => ?_, fun h5 => ?_⟩ <;> try simp only [Bool.cond_true_left, Bool.cond_false_right, Bool.not_eq_true', Bool.not_eq_false', Bool.not_not] at h5
  · have h5 : k < l.length := by simp at h5; omega
    have h6 : l.getD k 0 ≠ f := by
      intro e; rw [← getI l k h5] at e; exact hn (e ▸ List.getElem_mem h5)
    repeat ((conv => whnf); first | refine Cd.seq ?_ | refine Cd.cut ?_ | refine Cd.reg ?_ | refine Cd.block ?_ | refine Cd.cond ?_ | refine Cd.dreg ?_ | refine Cd.skip ?_ | refine Cd.ret ?_ | refine Cd.exit ?_ | refine Cd.loop ?_ | refine ⟨rfl, ?_⟩ | refine ⟨Nat.le_of_ble_eq_true rfl, ?_⟩ | refine ⟨.inl rfl, ?_⟩ | refine ⟨fun h => Bool.noConfusion h, ?_⟩)
    conv => whnf
    generalize hm : (bif decide (atI l f = k) then acc ++ [f] else acc) = mid
    refine ⟨Unit, fun _ => True, fun _ => ⟨[(0, ⟨[], true, .lst 1 t (rowsI l)⟩), (1, ⟨[], true, .int .i64 f⟩), (5, ⟨[], true, .sl 0 0 mid.length⟩), (6, ⟨[], true, .bool (decide (atI l f < k + 1))⟩), (7, ⟨[], true, .int .i64 (k : Int)⟩)], [(0, .row 1 (rowsI mid))], 1⟩, ?_, fun _ _ => ?_⟩
    · repeat ((conv => whnf); first | refine Cd.seq ?_ | refine Cd.cut ?_ | refine Cd.reg ?_ | refine Cd.block ?_ | refine Cd.cond ?_ | refine Cd.dreg ?_ | refine Cd.skip ?_ | refine Cd.ret ?_ | refine Cd.exit ?_ | refine Cd.loop ?_ | refine ⟨rfl, ?_⟩ | refine ⟨Nat.le_of_ble_eq_true rfl, ?_⟩ | refine ⟨.inl rfl, ?_⟩ | refine ⟨fun h => Bool.noConfusion h, ?_⟩)
      conv => whnf
      refine ⟨fun _ => ⟨rfl, Int.natCast_nonneg k, by rw [rowsI_len]; omega⟩, ?_⟩
      rw [rowsI_getK l k h5]
      repeat ((conv => whnf); first | refine Cd.seq ?_ | refine Cd.cut ?_ | refine Cd.reg ?_ | refine Cd.block ?_ | refine Cd.cond ?_ | refine Cd.dreg ?_ | refine Cd.skip ?_ | refine Cd.ret ?_ | refine Cd.exit ?_ | refine Cd.loop ?_ | refine ⟨rfl, ?_⟩ | refine ⟨Nat.le_of_ble_eq_true rfl, ?_⟩ | refine ⟨.inl rfl, ?_⟩ | refine ⟨fun h => Bool.noConfusion h, ?_⟩)
      conv => whnf
      refine ⟨fun h7 => ?_, fun h7 => ?_⟩ <;> try simp only [Bool.cond_true_left, Bool.cond_false_right, Bool.not_eq_true', Bool.not_eq_false', Bool.not_not] at h7
      · have h7 : (!decide (atI l f < k) && decide (f < l.getD k 0)) = true := by simpa using h7
        have e7 : atI l f = k := by
          simp only [Bool.and_eq_true, Bool.not_eq_true', decide_eq_false_iff_not, decide_eq_true_eq] at h7
          have := fun h => atI_lt l f k h
          omega
        have hm : acc ++ [f] = mid := by rw [← hm, show decide (atI l f = k) = true by simpa using e7]; rfl
        subst hm
        repeat ((conv => whnf); first | refine Cd.seq ?_ | refine Cd.cut ?_ | refine Cd.reg ?_ | refine Cd.block ?_ | refine Cd.cond ?_ | refine Cd.dreg ?_ | refine Cd.skip ?_ | refine Cd.ret ?_ | refine Cd.exit ?_ | refine Cd.loop ?_ | refine ⟨rfl, ?_⟩ | refine ⟨Nat.le_of_ble_eq_true rfl, ?_⟩ | refine ⟨.inl rfl, ?_⟩ | refine ⟨fun h => Bool.noConfusion h, ?_⟩)
        conv => whnf
        refine ⟨(rowsI_len acc).symm, by show (((rowsI acc).length + 1 : Nat) : Int) ≤ _; rw [rowsI_len, hacc]; omega, by show ((rowsI acc).length + 1) * 8 ≤ _; rw [rowsI_len, hacc]; omega, ?_⟩
        repeat ((conv => whnf); first | refine Cd.seq ?_ | refine Cd.cut ?_ | refine Cd.reg ?_ | refine Cd.block ?_ | refine Cd.cond ?_ | refine Cd.dreg ?_ | refine Cd.skip ?_ | refine Cd.ret ?_ | refine Cd.exit ?_ | refine Cd.loop ?_ | refine ⟨rfl, ?_⟩ | refine ⟨Nat.le_of_ble_eq_true rfl, ?_⟩ | refine ⟨.inl rfl, ?_⟩ | refine ⟨fun h => Bool.noConfusion h, ?_⟩)
        conv => whnf
        refine ⟨(), trivial, ?_⟩
        refine viewI [some ?k141_0] rfl rfl ?h3_141 ?h4_141 ?h5_141 ?h6_141 ?h7_141
        case' h7_141 => repeat' (first | exact trivial | rfl | exact .inl rfl | exact .inr rfl | exact id | exact (fun h => Bool.noConfusion h) | refine And.intro ?_ ?_)
        case' h4_141 => rfl
        case' h6_141 => rfl
        case' h3_141 => repeat' (first | exact trivial | rfl | exact .inl rfl | exact .inr rfl | exact id | exact (fun h => Bool.noConfusion h) | refine And.intro ?_ ?_)
        case' h5_141 => repeat' (first | exact trivial | rfl | exact .inl rfl | exact .inr rfl | exact id | exact (fun h => Bool.noConfusion h) | refine And.intro ?_ ?_)
        · exact rowsI_snoc acc f
        · show (rowsI acc).length + 1 = _
          rw [rowsI_len, List.length_append]; rfl
        · show true = decide (atI l f < k + 1)
          simp; omega
      have h7 : (!decide (atI l f < k) && decide (f < l.getD k 0)) = false := by simpa using h7
      have e7 : atI l f ≠ k := by
        intro e
        have := atI_ge l f (by omega)
        rw [e] at this
        rw [e, show decide (k < k) = false by simp, Bool.not_false, Bool.true_and, decide_eq_false_iff_not] at h7
        omega
      have hm : acc = mid := by rw [← hm, show decide (atI l f = k) = false by simpa using e7]; rfl
      subst hm
      repeat ((conv => whnf); first | refine Cd.seq ?_ | refine Cd.cut ?_ | refine Cd.reg ?_ | refine Cd.block ?_ | refine Cd.cond ?_ | refine Cd.dreg ?_ | refine Cd.skip ?_ | refine Cd.ret ?_ | refine Cd.exit ?_ | refine Cd.loop ?_ | refine ⟨rfl, ?_⟩ | refine ⟨Nat.le_of_ble_eq_true rfl, ?_⟩ | refine ⟨.inl rfl, ?_⟩ | refine ⟨fun h => Bool.noConfusion h, ?_⟩)
      conv => whnf
      refine ⟨(), trivial, ?_⟩
      refine viewI [some 0] rfl rfl ?_ rfl ?_ rfl ?_
      repeat' (first | exact trivial | rfl | exact .inl rfl | exact .inr rfl | exact id | exact (fun h => Bool.noConfusion h) | refine And.intro ?_ ?_)
      exact decide_eq_decide.2 (by show atI l f < k ↔ atI l f < k + 1; omega)
    repeat ((conv => whnf); first | refine Cd.seq ?_ | refine Cd.cut ?_ | refine Cd.reg ?_ | refine Cd.block ?_ | refine Cd.cond ?_ | refine Cd.dreg ?_ | refine Cd.skip ?_ | refine Cd.ret ?_ | refine Cd.exit ?_ | refine Cd.loop ?_ | refine ⟨rfl, ?_⟩ | refine ⟨Nat.le_of_ble_eq_true rfl, ?_⟩ | refine ⟨.inl rfl, ?_⟩ | refine ⟨fun h => Bool.noConfusion h, ?_⟩)
    conv => whnf
    have hml : mid.length ≤ k + 2 := by
      rw [← hm]
      cases decide (atI l f = k) with
      | true => show (acc ++ [f]).length ≤ _; rw [hacc]; have := hal; simp; omega
      | false => show acc.length ≤ _; rw [hacc]; omega
    refine ⟨fun _ => ⟨rfl, Int.natCast_nonneg k, by rw [rowsI_len]; omega⟩, ?_⟩
    rw [rowsI_getK l k h5]
    repeat ((conv => whnf); first | refine Cd.seq ?_ | refine Cd.cut ?_ | refine Cd.reg ?_ | refine Cd.block ?_ | refine Cd.cond ?_ | refine Cd.dreg ?_ | refine Cd.skip ?_ | refine Cd.ret ?_ | refine Cd.exit ?_ | refine Cd.loop ?_ | refine ⟨rfl, ?_⟩ | refine ⟨Nat.le_of_ble_eq_true rfl, ?_⟩ | refine ⟨.inl rfl, ?_⟩ | refine ⟨fun h => Bool.noConfusion h, ?_⟩)
    conv => whnf
    refine ⟨(rowsI_len mid).symm, by show (((rowsI mid).length + 1 : Nat) : Int) ≤ _; rw [rowsI_len]; omega, by show ((rowsI mid).length + 1) * 8 ≤ _; rw [rowsI_len]; omega, ?_⟩
    repeat ((conv => whnf); first | refine Cd.seq ?_ | refine Cd.cut ?_ | refine Cd.reg ?_ | refine Cd.block ?_ | refine Cd.cond ?_ | refine Cd.dreg ?_ | refine Cd.skip ?_ | refine Cd.ret ?_ | refine Cd.exit ?_ | refine Cd.loop ?_ | refine ⟨rfl, ?_⟩ | refine ⟨Nat.le_of_ble_eq_true rfl, ?_⟩ | refine ⟨.inl rfl, ?_⟩ | refine ⟨fun h => Bool.noConfusion h, ?_⟩)
    conv => whnf
    rw [wrapI (n := (k : Int) + 1) (by omega) (by omega), show ((k : Int) + 1) = ((k + 1 : Nat) : Int) by omega]
    have hnext : mid ++ [l.getD k 0] = accA l f (k + 1) := by
      by_cases e : atI l f = k
      · rw [← hm, show decide (atI l f = k) = true by simpa using e, cond_true, hacc, ← e]
        exact accA_put (by omega)
      · rw [← hm, show decide (atI l f = k) = false by simpa using e, cond_false, hacc]
        exact accA_step h5 (fun h => e h.symm)
    refine ⟨(k + 1, mid ++ [l.getD k 0]), ⟨by show k + 1 ≤ _; omega, hnext⟩, ?_, by show l.length - (k + 1) < l.length - k; omega⟩
    refine viewI [some ?k189_0] rfl rfl ?h3_189 ?h4_189 ?h5_189 ?h6_189 ?h7_189
    case' h7_189 => repeat' (first | exact trivial | rfl | exact .inl rfl | exact .inr rfl | exact id | exact (fun h => Bool.noConfusion h) | refine And.intro ?_ ?_)
    case' h4_189 => rfl
    case' h6_189 => rfl
    case' h3_189 => repeat' (first | exact trivial | rfl | exact .inl rfl | exact .inr rfl | exact id | exact (fun h => Bool.noConfusion h) | refine And.intro ?_ ?_)
    case' h5_189 => repeat' (first | exact trivial | rfl | exact .inl rfl | exact .inr rfl | exact id | exact (fun h => Bool.noConfusion h) | refine And.intro ?_ ?_)
    · exact rowsI_snoc mid _
    · show (rowsI mid).length + 1 = _
      rw [rowsI_len, List.length_append]; rfl
  have h5 : k = l.length := by simp at h5; omega
  subst h5
  repeat ((conv => whnf); first | refine Cd.seq ?_ | refine Cd.cut ?_ | refine Cd.reg ?_ | refine Cd.block ?_ | refine Cd.cond ?_ | refine Cd.dreg ?_ | refine Cd.skip ?_ | refine Cd.ret ?_ | refine Cd.exit ?_ | refine Cd.loop ?_ | refine ⟨rfl, ?_⟩ | refine ⟨Nat.le_of_ble_eq_true rfl, ?_⟩ | refine ⟨.inl rfl, ?_⟩ | refine ⟨fun h => Bool.noConfusion h, ?_⟩)
  conv => whnf
  generalize hr : insI l (atI l f) f = res
  have hrl : res.length = l.length + 1 := by rw [← hr, insI_len]
  have hend := accA_end l f
  rw [← hacc, hr] at hend
  refine ⟨Unit, fun _ => True, fun _ => ⟨[(5, ⟨[], true, .sl 0 0 res.length⟩)], [(0, .row 1 (rowsI res))], 1⟩, ?_, fun _ _ => ?_⟩
  · repeat ((conv => whnf); first | refine Cd.seq ?_ | refine Cd.cut ?_ | refine Cd.reg ?_ | refine Cd.block ?_ | refine Cd.cond ?_ | refine Cd.dreg ?_ | refine Cd.skip ?_ | refine Cd.ret ?_ | refine Cd.exit ?_ | refine Cd.loop ?_ | refine ⟨rfl, ?_⟩ | refine ⟨Nat.le_of_ble_eq_true rfl, ?_⟩ | refine ⟨.inl rfl, ?_⟩ | refine ⟨fun h => Bool.noConfusion h, ?_⟩)
    conv => whnf
    refine ⟨fun h7 => ?_, fun h7 => ?_⟩ <;> try simp only [Bool.cond_true_left, Bool.cond_false_right, Bool.not_eq_true', Bool.not_eq_false', Bool.not_not] at h7
    · have h7 : decide (atI l f < l.length) = false := h7
      have hend : acc ++ [f] = res := by rw [← hend, if_neg (by simpa using h7)]
      subst hend
      repeat ((conv => whnf); first | refine Cd.seq ?_ | refine Cd.cut ?_ | refine Cd.reg ?_ | refine Cd.block ?_ | refine Cd.cond ?_ | refine Cd.dreg ?_ | refine Cd.skip ?_ | refine Cd.ret ?_ | refine Cd.exit ?_ | refine Cd.loop ?_ | refine ⟨rfl, ?_⟩ | refine ⟨Nat.le_of_ble_eq_true rfl, ?_⟩ | refine ⟨.inl rfl, ?_⟩ | refine ⟨fun h => Bool.noConfusion h, ?_⟩)
      conv => whnf
      refine ⟨(rowsI_len acc).symm, by show (((rowsI acc).length + 1 : Nat) : Int) ≤ _; rw [rowsI_len]; simp at hrl; omega, by show ((rowsI acc).length + 1) * 8 ≤ _; rw [rowsI_len]; simp at hrl; omega, ?_⟩
      repeat ((conv => whnf); first | refine Cd.seq ?_ | refine Cd.cut ?_ | refine Cd.reg ?_ | refine Cd.block ?_ | refine Cd.cond ?_ | refine Cd.dreg ?_ | refine Cd.skip ?_ | refine Cd.ret ?_ | refine Cd.exit ?_ | refine Cd.loop ?_ | refine ⟨rfl, ?_⟩ | refine ⟨Nat.le_of_ble_eq_true rfl, ?_⟩ | refine ⟨.inl rfl, ?_⟩ | refine ⟨fun h => Bool.noConfusion h, ?_⟩)
      conv => whnf
      refine ⟨(), trivial, ?_⟩
      refine viewI [some ?k219_0] rfl rfl ?h3_219 ?h4_219 ?h5_219 ?h6_219 ?h7_219
      case' h7_219 => repeat' (first | exact trivial | rfl | exact .inl rfl | exact .inr rfl | exact id | exact (fun h => Bool.noConfusion h) | refine And.intro ?_ ?_)
      case' h4_219 => rfl
      case' h6_219 => rfl
      case' h3_219 => repeat' (first | exact trivial | rfl | exact .inl rfl | exact .inr rfl | exact id | exact (fun h => Bool.noConfusion h) | refine And.intro ?_ ?_)
      case' h5_219 => repeat' (first | exact trivial | rfl | exact .inl rfl | exact .inr rfl | exact id | exact (fun h => Bool.noConfusion h) | refine And.intro ?_ ?_)
      · exact rowsI_snoc acc f
      · show (rowsI acc).length + 1 = _
        rw [rowsI_len, List.length_append]; rfl
    have h7 : decide (atI l f < l.length) = true := h7
    have hend : acc = res := by rw [← hend, if_pos (by simpa using h7)]
    subst hend
    repeat ((conv => whnf); first | refine Cd.seq ?_ | refine Cd.cut ?_ | refine Cd.reg ?_ | refine Cd.block ?_ | refine Cd.cond ?_ | refine Cd.dreg ?_ | refine Cd.skip ?_ | refine Cd.ret ?_ | refine Cd.exit ?_ | refine Cd.loop ?_ | refine ⟨rfl, ?_⟩ | refine ⟨Nat.le_of_ble_eq_true rfl, ?_⟩ | refine ⟨.inl rfl, ?_⟩ | refine ⟨fun h => Bool.noConfusion h, ?_⟩)
    conv => whnf
    refine ⟨(), trivial, ?_⟩
    refine viewI [some 0] rfl rfl ?_ rfl ?_ rfl ?_
    repeat' (first | exact trivial | rfl | exact .inl rfl | exact .inr rfl | exact id | exact (fun h => Bool.noConfusion h) | refine And.intro ?_ ?_)
  repeat ((conv => whnf); first | refine Cd.seq ?_ | refine Cd.cut ?_ | refine Cd.reg ?_ | refine Cd.block ?_ | refine Cd.cond ?_ | refine Cd.dreg ?_ | refine Cd.skip ?_ | refine Cd.ret ?_ | refine Cd.exit ?_ | refine Cd.loop ?_ | refine ⟨rfl, ?_⟩ | refine ⟨Nat.le_of_ble_eq_true rfl, ?_⟩ | refine ⟨.inl rfl, ?_⟩ | refine ⟨fun h => Bool.noConfusion h, ?_⟩)
  conv => whnf
  refine ⟨[], ?_, rfl, trivial, rfl, ?_⟩
  · exact trivial
  try subst hk
  repeat' (first | exact trivial | rfl | exact .inl rfl | exact .inr rfl | exact id | exact (fun h => Bool.noConfusion h) | refine And.intro ?_ ?_)
  · show 0 + res.length ≤ _
    rw [rowsI_len]; omega
  · exact take0 (rowsI_len _)
end Go.Proofs.Ytcifhjkodbaghaa

namespace Go.Proofs.Ytcifhjkodbaghaa
open Go Go.Sk Go.RowKit

/- slices.DeleteFunc[[]int,int] -/
def rc82 : RC :=
  (.seq
  (.reg [⟨(some 4), none, (.mv (.c (.lst 0 true [])))⟩] [])
  (.seq
  (.reg [⟨(some 8), none, (.mv (.t 0))⟩,
    ⟨(some 9), none, (.mv (.t 1))⟩,
    ⟨(some 10), none, (.call 87 [(.t 8), (.t 9)])⟩,
    ⟨(some 5), none, (.mv (.t 10))⟩] [8, 9, 10])
  (.seq
  (.seq
  (.reg [⟨(some 11), none, (.mv (.t 5))⟩,
    ⟨(some 12), none, (.bin .eql (.t 11) (.c (.int .i64 (-1))))⟩] [11])
  (.cond (.t 12)
   (.seq
   (.reg [⟨(some 13), none, (.mv (.t 0))⟩,
     ⟨(some 4), none, (.mv (.t 13))⟩] [13])
   .ret)
   .skip))
  (.seq
  (.seq
  (.reg [⟨(some 14), none, (.mv (.t 5))⟩,
    ⟨(some 15), none, (.bin .add (.t 14) (.c (.int .i64 1)))⟩,
    ⟨(some 6), none, (.mv (.t 15))⟩] [14, 15])
  (.block 0
   (.loop
    (.seq
    (.seq
    (.reg [⟨(some 16), none, (.mv (.t 6))⟩,
      ⟨(some 17), none, (.mv (.t 0))⟩,
      ⟨(some 18), none, (.len (.t 17))⟩,
      ⟨(some 19), none, (.bin .lss (.t 16) (.t 18))⟩] [16, 17, 18])
    (.cond (.t 19)
     .skip
     (.exit 0)))
    (.seq
    (.block 1
     (.seq
     (.reg [⟨(some 22), none, (.mv (.t 0))⟩,
       ⟨(some 23), none, (.mv (.t 6))⟩,
       ⟨(some 24), none, (.iaddr 1 (.t 22) (.t 23))⟩,
       ⟨(some 25), none, (.ld false 1 (.t 24))⟩,
       ⟨(some 7), none, (.mv (.t 25))⟩] [22, 23, 24, 25])
     (.seq
     (.reg [⟨(some 26), none, (.mv (.t 1))⟩,
       ⟨(some 27), none, (.mv (.t 7))⟩,
       ⟨(some 28), none, (.vcall (.t 26) [(.t 27)])⟩,
       ⟨(some 29), none, (.un .not (.t 28))⟩] [26, 27, 28])
     (.cond (.t 29)
      (.seq
      (.reg [⟨(some 30), none, (.mv (.t 0))⟩,
        ⟨(some 31), none, (.mv (.t 5))⟩,
        ⟨(some 32), none, (.mv (.t 7))⟩,
        ⟨(some 33), none, (.iaddr 1 (.t 30) (.t 31))⟩,
        ⟨none, none, (.st 1 (.t 33) (.t 32))⟩] [30, 31, 32, 33])
      (.reg [⟨(some 34), none, (.mv (.t 5))⟩,
        ⟨(some 35), none, (.bin .add (.t 34) (.c (.int .i64 1)))⟩,
        ⟨(some 5), none, (.mv (.t 35))⟩] [34, 35]))
      .skip))))
    (.reg [⟨(some 20), none, (.mv (.t 6))⟩,
      ⟨(some 21), none, (.bin .add (.t 20) (.c (.int .i64 1)))⟩,
      ⟨(some 6), none, (.mv (.t 21))⟩] [20, 21]))))))
  (.seq
  (.reg [⟨(some 36), none, (.mv (.t 0))⟩,
    ⟨(some 37), none, (.mv (.t 5))⟩,
    ⟨(some 38), none, (.slc 1 (.t 36) (some (.t 37)) none)⟩,
    ⟨none, none, (.clr 1 [(.int .i64 0)] (.t 38))⟩] [36, 37, 38])
  (.seq
  (.reg [⟨(some 39), none, (.mv (.t 0))⟩,
    ⟨(some 40), none, (.mv (.t 5))⟩,
    ⟨(some 41), none, (.slc 1 (.t 39) none (some (.t 40)))⟩,
    ⟨(some 4), none, (.mv (.t 41))⟩] [39, 40, 41])
  .ret))))))
theorem rcq82 : resC Go.Proofs.Try.prog Go.Proofs.Try.f82.ntmps ((Go.Proofs.Try.f82.body).getD .skip) = some (strip rc82) := by kernel_rfl
def rv82 : List RV := [(.tmp 4)]
theorem rvq82 : Go.Proofs.Try.f82.results.toList.mapM (resRV Go.Proofs.Try.prog) = some rv82 := by kernel_rfl

/- pagecache/lru.without -/
def rc71 : RC :=
  (.seq
  (.reg [⟨(some 3), none, (.box (.t 1))⟩,
    ⟨(some 4), none, (.mv (.c (.lst 0 true [])))⟩] [])
  (.seq
  (.reg [⟨(some 5), none, (.mv (.t 0))⟩,
    ⟨(some 6), none, (.call 75 [(.t 5)])⟩,
    ⟨(some 7), none, (.mkfn 83 [(.t 3)])⟩,
    ⟨(some 8), none, (.call 82 [(.t 6), (.t 7)])⟩,
    ⟨(some 4), none, (.mv (.t 8))⟩] [5, 6, 7, 8])
  .ret))
theorem rcq71 : resC Go.Proofs.Try.prog Go.Proofs.Try.f71.ntmps ((Go.Proofs.Try.f71.body).getD .skip) = some (strip rc71) := by kernel_rfl
def rv71 : List RV := [(.tmp 4)]
theorem rvq71 : Go.Proofs.Try.f71.results.toList.mapM (resRV Go.Proofs.Try.prog) = some rv71 := by kernel_rfl

/- pagecache/lru.front -/
def rc68 : RC :=
  (.seq
  (.reg [⟨(some 4), none, (.mv (.c (.lst 0 true [])))⟩] [])
  (.seq
  (.reg [⟨(some 5), none, (.mv (.t 1))⟩,
    ⟨(some 6), none, (.bslice 1 [(.int .i64 0)] 1 [(0, (.t 5))])⟩,
    ⟨(some 7), none, (.mv (.t 0))⟩,
    ⟨(some 8), none, (.mv (.t 1))⟩,
    ⟨(some 9), none, (.call 71 [(.t 7), (.t 8)])⟩,
    ⟨(some 10), none, (.app 1 8 (.t 6) (.t 9))⟩,
    ⟨(some 4), none, (.mv (.t 10))⟩] [5, 6, 7, 8, 9, 10])
  .ret))
theorem rcq68 : resC Go.Proofs.Try.prog Go.Proofs.Try.f68.ntmps ((Go.Proofs.Try.f68.body).getD .skip) = some (strip rc68) := by kernel_rfl
def rv68 : List RV := [(.tmp 4)]
theorem rvq68 : Go.Proofs.Try.f68.results.toList.mapM (resRV Go.Proofs.Try.prog) = some rv68 := by kernel_rfl

structure DelI (l : List Int) (x : Int) (j : Nat) (R : List Int) : Prop where
  le : j ≤ l.length
  len : R.length = l.length
  kept : R.take (wo (l.take j) x).length = wo (l.take j) x
  rest : R.drop j = l.drop j
theorem DelI.getj {l : List Int} {x : Int} {j : Nat} {R : List Int} (h : DelI l x j R) (hj : j < l.length) : R[j]'(by rw [h.len]; exact hj) = l[j] := by
  have h1 : (R.drop j)[0]? = (l.drop j)[0]? := by rw [h.rest]
  rw [List.getElem?_drop, List.getElem?_drop, Nat.add_zero, List.getElem?_eq_getElem hj, List.getElem?_eq_getElem (by rw [h.len]; exact hj)] at h1
  exact Option.some.inj h1
theorem drop_next {R l : List Int} {j : Nat} (h : R.drop j = l.drop j) : R.drop (j + 1) = l.drop (j + 1) := by
  rw [← List.drop_drop, ← List.drop_drop, h]
theorem DelI.skip {l : List Int} {x : Int} {j : Nat} {R : List Int} (h : DelI l x j R) (hj : j < l.length) (hx : l[j] = x) : DelI l x (j + 1) R := by
  have e := wo_skip (x := x) hj hx
  exact ⟨by omega, h.len, by rw [e]; exact h.kept, drop_next h.rest⟩
theorem DelI.keep {l : List Int} {x : Int} {j : Nat} {R : List Int} (h : DelI l x j R) (hj : j < l.length) (hx : l[j] ≠ x) : DelI l x (j + 1) (R.set (wo (l.take j) x).length l[j]) := by
  have e := wo_keep (x := x) hj hx
  have hle := wo_take_len l x j
  have hk := h.kept
  have hlen := h.len
  refine ⟨by omega, by rw [List.length_set]; exact h.len, ?_, ?_⟩
  · rw [e, List.length_append, List.length_singleton]
    generalize wo (l.take j) x = K at hk hle ⊢
    rw [List.take_succ_eq_append_getElem (by rw [List.length_set]; omega), List.getElem_set_self, List.take_set_of_le (Nat.le_refl _), hk]
  · rw [List.drop_set_of_lt (by omega)]
    exact drop_next h.rest
theorem DelI.start {l : List Int} {x : Int} {n : Nat} (hn : n < l.length) (hx : l[n] = x) (hb : ∀ j (hj : j < n), l[j]'(by omega) ≠ x) : DelI l x (n + 1) l ∧ (wo (l.take (n + 1)) x).length = n := by
  have e := wo_skip (x := x) hn hx
  have e2 : wo (l.take n) x = l.take n := wo_none fun hm => by
    obtain ⟨j, hj, he⟩ := List.getElem_of_mem hm
    rw [List.length_take] at hj
    rw [List.getElem_take] at he
    exact hb j (by omega) he
  have e3 : (l.take n).length = n := by rw [List.length_take]; omega
  rw [e, e2]
  refine ⟨⟨by omega, rfl, ?_, rfl⟩, e3⟩
  rw [e, e2, e3]
theorem zrep (k : Nat) : List.replicate k [V.int .i64 0] = rowsI (List.replicate k 0) := by rw [rowsI, List.map_replicate]
set_option maxRecDepth 20000 in
set_option maxHeartbeats 1000000 in
theorem ok82 (l : List Int) (x : Int) (hl : l.length ≤ 100000) : FnC Try.prog 82 [.row 1 (rowsI l), .box [.int .i64 x]] [.sl 0 0 l.length, .fn 83 [.ptr 1 0 0]] (.sl 0 0 (wo l x).length)
    [.row 1 (rowsI (wo l x ++ List.replicate (l.length - (wo l x).length) 0)), .box [.int .i64 x]] := by
  refine fn_okC (ob0 := [.row 1 (rowsI l), .box [.int .i64 x]]) (rc := rc82) (rvs := rv82) Try.func82 rfl rcq82 rvq82 (show 2 ≤ _ by decide) ?_
  generalize hk : wo l x = q
  have p83 : FnC Try.prog 87 [] [.lst 1 false (rowsI l), .fn 83 [.rp 1 [.int .i64 x] 0]] (.int .i64 (idxF (fun y => y == x) l)) [] := ok87 l false 83 [.rp 1 [.int .i64 x] 0] (fun y => y == x) call83 rfl (fun y => ok83 y x) (by omega)
  have ht0 : ((rowsI l).drop 0).take l.length = rowsI l := take0 (rowsI_len l)
  have key : FnC Try.prog 87 [] [.lst 1 false (((rowsI l).drop 0).take l.length), .fn 83 [.rp 1 [.int .i64 x] 0]] (.int .i64 (idxF (fun y => y == x) l)) [] := by rw [ht0]; exact p83
  repeat ((conv => whnf); first | refine Cd.seq ?_ | refine Cd.cut ?_ | refine Cd.reg ?_ | refine Cd.block ?_ | refine Cd.cond ?_ | refine Cd.dreg ?_ | refine Cd.skip ?_ | refine Cd.ret ?_ | refine Cd.exit ?_ | refine Cd.loop ?_ | refine ⟨rfl, ?_⟩ | refine ⟨Nat.le_of_ble_eq_true rfl, ?_⟩ | refine ⟨.inl rfl, ?_⟩ | refine ⟨fun h => Bool.noConfusion h, ?_⟩)
  conv => whnf
  refine .inl ⟨_, fun _ => ⟨?_, key⟩, .inr rfl, ?_⟩
  · intro v hv
    have hv : v ∈ [V.sl 0 0 l.length, V.fn 83 [V.ptr 1 0 0]] := hv
    rcases List.mem_cons.1 hv with rfl | hv
    · show 0 + l.length ≤ (rowsI l).length
      rw [rowsI_len]; omega
    · obtain rfl := List.mem_singleton.1 hv
      intro c hc
      obtain rfl := List.mem_singleton.1 hc
      exact ⟨rfl, rfl⟩
  repeat ((conv => whnf); first | refine Cd.seq ?_ | refine Cd.cut ?_ | refine Cd.reg ?_ | refine Cd.block ?_ | refine Cd.cond ?_ | refine Cd.dreg ?_ | refine Cd.skip ?_ | refine Cd.ret ?_ | refine Cd.exit ?_ | refine Cd.loop ?_ | refine ⟨rfl, ?_⟩ | refine ⟨Nat.le_of_ble_eq_true rfl, ?_⟩ | refine ⟨.inl rfl, ?_⟩ | refine ⟨fun h => Bool.noConfusion h, ?_⟩)
  conv => whnf
  refine ⟨fun h1 => ?_, fun h1 => ?_⟩ <;> try simp only [Bool.cond_true_left, Bool.cond_false_right, Bool.not_eq_true', Bool.not_eq_false', Bool.not_not] at h1
  · have h1 : idxF (fun y => y == x) l = -1 := by simpa using h1
    have hno : x ∉ l := fun hm => by
      have := (idxF_neg (fun y => y == x) l).1 (by omega) x hm
      simp at this
    rw [wo_none hno] at hk
    subst hk
    repeat ((conv => whnf); first | refine Cd.seq ?_ | refine Cd.cut ?_ | refine Cd.reg ?_ | refine Cd.block ?_ | refine Cd.cond ?_ | refine Cd.dreg ?_ | refine Cd.skip ?_ | refine Cd.ret ?_ | refine Cd.exit ?_ | refine Cd.loop ?_ | refine ⟨rfl, ?_⟩ | refine ⟨Nat.le_of_ble_eq_true rfl, ?_⟩ | refine ⟨.inl rfl, ?_⟩ | refine ⟨fun h => Bool.noConfusion h, ?_⟩)
    conv => whnf
    try subst hk
    refine ⟨[some 0, some 1], ?_, rfl, ?_, rfl, ?_⟩
    all_goals repeat' (first | exact trivial | rfl | exact .inl rfl | exact .inr rfl | exact id | exact (fun h => Bool.noConfusion h) | refine And.intro ?_ ?_)
    rw [Nat.sub_self, List.replicate_zero, List.append_nil]
  have h1 : idxF (fun y => y == x) l ≠ -1 := by simpa using h1
  have hge := (idxF_in (fun y => y == x) l).1
  obtain ⟨n, hn, hin, hx, hb⟩ := idxF_spec (fun y => y == x) l (by omega)
  rw [hin]
  have hx : l[n] = x := by simpa using hx
  obtain ⟨hD, hDl⟩ := DelI.start hn hx fun j hj => by simpa using hb j hj
  have hn1 : IntKind.i64.wrap ((n : Int) + 1) = ((n + 1 : Nat) : Int) := by rw [wrapI (by omega) (by omega)]; omega
  repeat ((conv => whnf); first | refine Cd.seq ?_ | refine Cd.cut ?_ | refine Cd.reg ?_ | refine Cd.block ?_ | refine Cd.cond ?_ | refine Cd.dreg ?_ | refine Cd.skip ?_ | refine Cd.ret ?_ | refine Cd.exit ?_ | refine Cd.loop ?_ | refine ⟨rfl, ?_⟩ | refine ⟨Nat.le_of_ble_eq_true rfl, ?_⟩ | refine ⟨.inl rfl, ?_⟩ | refine ⟨fun h => Bool.noConfusion h, ?_⟩)
  conv => whnf
  rw [hn1]
  refine ⟨Nat × List Int, fun p => DelI l x p.1 p.2, fun p => ⟨[(0, ⟨[], true, .sl 0 0 l.length⟩), (1, ⟨[], true, .fn 83 [.ptr 1 0 0]⟩), (5, ⟨[], true, .int .i64 ((wo (l.take p.1) x).length : Int)⟩), (6, ⟨[], true, .int .i64 (p.1 : Int)⟩)], [(0, .row 1 (rowsI p.2)), (1, .box [.int .i64 x])], 2⟩, fun p => l.length - p.1, ⟨(n + 1, l), hD, ?_⟩, fun p hp => ?_⟩
  · refine viewI [some 0, some 1] rfl rfl ?_ rfl ?_ rfl ?_
    repeat' (first | exact trivial | rfl | exact .inl rfl | exact .inr rfl | exact id | exact (fun h => Bool.noConfusion h) | refine And.intro ?_ ?_)
    show (n : Int) = ((wo (l.take (n + 1)) x).length : Int)
    rw [hDl]
  obtain ⟨j, R⟩ := p
  have hp : DelI l x j R := hp
  dsimp only
  have hle := hp.le
  have hlen := hp.len
  have hwl := wo_take_len l x j
  repeat ((conv => whnf); first | refine Cd.seq ?_ | refine Cd.cut ?_ | refine Cd.reg ?_ | refine Cd.block ?_ | refine Cd.cond ?_ | refine Cd.dreg ?_ | refine Cd.skip ?_ | refine Cd.ret ?_ | refine Cd.exit ?_ | refine Cd.loop ?_ | refine ⟨rfl, ?_⟩ | refine ⟨Nat.le_of_ble_eq_true rfl, ?_⟩ | refine ⟨.inl rfl, ?_⟩ | refine ⟨fun h => Bool.noConfusion h, ?_⟩)
  conv => whnf
  refine ⟨fun h2 => ?_, fun h2 => ?_⟩ <;> try simp only [Bool.cond_true_left, Bool.cond_false_right, Bool.not_eq_true', Bool.not_eq_false', Bool.not_not] at h2
  · have h2 : j < l.length := by simp at h2; omega
    have hj1 : IntKind.i64.wrap ((j : Int) + 1) = ((j + 1 : Nat) : Int) := by rw [wrapI (by omega) (by omega)]; omega
    have hRj := hp.getj h2
    have hskip := fun h => hp.skip h2 h
    have hkeep := fun h => hp.keep h2 h
    have ws := wo_skip (x := x) h2
    have wk := wo_keep (x := x) h2
    repeat ((conv => whnf); first | refine Cd.seq ?_ | refine Cd.cut ?_ | refine Cd.reg ?_ | refine Cd.block ?_ | refine Cd.cond ?_ | refine Cd.dreg ?_ | refine Cd.skip ?_ | refine Cd.ret ?_ | refine Cd.exit ?_ | refine Cd.loop ?_ | refine ⟨rfl, ?_⟩ | refine ⟨Nat.le_of_ble_eq_true rfl, ?_⟩ | refine ⟨.inl rfl, ?_⟩ | refine ⟨fun h => Bool.noConfusion h, ?_⟩)
    conv => whnf
    refine ⟨fun _ => ⟨by omega, by omega⟩, ?_⟩
    repeat ((conv => whnf); first | refine Cd.seq ?_ | refine Cd.cut ?_ | refine Cd.reg ?_ | refine Cd.block ?_ | refine Cd.cond ?_ | refine Cd.dreg ?_ | refine Cd.skip ?_ | refine Cd.ret ?_ | refine Cd.exit ?_ | refine Cd.loop ?_ | refine ⟨rfl, ?_⟩ | refine ⟨Nat.le_of_ble_eq_true rfl, ?_⟩ | refine ⟨.inl rfl, ?_⟩ | refine ⟨fun h => Bool.noConfusion h, ?_⟩)
    conv => whnf
    refine ⟨fun _ => by rw [rowsI_len, Int.toNat_natCast]; omega, ?_⟩
    repeat ((conv => whnf); first | refine Cd.seq ?_ | refine Cd.cut ?_ | refine Cd.reg ?_ | refine Cd.block ?_ | refine Cd.cond ?_ | refine Cd.dreg ?_ | refine Cd.skip ?_ | refine Cd.ret ?_ | refine Cd.exit ?_ | refine Cd.loop ?_ | refine ⟨rfl, ?_⟩ | refine ⟨Nat.le_of_ble_eq_true rfl, ?_⟩ | refine ⟨.inl rfl, ?_⟩ | refine ⟨fun h => Bool.noConfusion h, ?_⟩)
    conv => whnf
    rw [Nat.zero_add, Int.toNat_natCast, rowsI_get R j (by omega), hRj]
    repeat ((conv => whnf); first | refine Cd.seq ?_ | refine Cd.cut ?_ | refine Cd.reg ?_ | refine Cd.block ?_ | refine Cd.cond ?_ | refine Cd.dreg ?_ | refine Cd.skip ?_ | refine Cd.ret ?_ | refine Cd.exit ?_ | refine Cd.loop ?_ | refine ⟨rfl, ?_⟩ | refine ⟨Nat.le_of_ble_eq_true rfl, ?_⟩ | refine ⟨.inl rfl, ?_⟩ | refine ⟨fun h => Bool.noConfusion h, ?_⟩)
    conv => whnf
    refine ⟨call83, .inl ⟨.bool (l[j] == x), fun _ => ⟨?_, ok83 l[j] x⟩, .inr rfl, ?_⟩⟩
    · intro v hv
      have hv : v ∈ [V.int .i64 l[j], V.ptr 1 0 0] := hv
      rcases List.mem_cons.1 hv with rfl | hv
      · exact trivial
      · obtain rfl := List.mem_singleton.1 hv
        exact ⟨rfl, rfl⟩
    repeat ((conv => whnf); first | refine Cd.seq ?_ | refine Cd.cut ?_ | refine Cd.reg ?_ | refine Cd.block ?_ | refine Cd.cond ?_ | refine Cd.dreg ?_ | refine Cd.skip ?_ | refine Cd.ret ?_ | refine Cd.exit ?_ | refine Cd.loop ?_ | refine ⟨rfl, ?_⟩ | refine ⟨Nat.le_of_ble_eq_true rfl, ?_⟩ | refine ⟨.inl rfl, ?_⟩ | refine ⟨fun h => Bool.noConfusion h, ?_⟩)
    conv => whnf
    refine ⟨fun h3 => ?_, fun h3 => ?_⟩ <;> try simp only [Bool.cond_true_left, Bool.cond_false_right, Bool.not_eq_true', Bool.not_eq_false', Bool.not_not] at h3
    · have h3 : l[j] ≠ x := by simpa using h3
      have hkeep := hkeep h3
      have wk := wk h3
      generalize wo (l.take j) x = K at hkeep wk hwl ⊢
      repeat ((conv => whnf); first | refine Cd.seq ?_ | refine Cd.cut ?_ | refine Cd.reg ?_ | refine Cd.block ?_ | refine Cd.cond ?_ | refine Cd.dreg ?_ | refine Cd.skip ?_ | refine Cd.ret ?_ | refine Cd.exit ?_ | refine Cd.loop ?_ | refine ⟨rfl, ?_⟩ | refine ⟨Nat.le_of_ble_eq_true rfl, ?_⟩ | refine ⟨.inl rfl, ?_⟩ | refine ⟨fun h => Bool.noConfusion h, ?_⟩)
      conv => whnf
      refine ⟨fun _ => ⟨by omega, by omega⟩, ?_⟩
      repeat ((conv => whnf); first | refine Cd.seq ?_ | refine Cd.cut ?_ | refine Cd.reg ?_ | refine Cd.block ?_ | refine Cd.cond ?_ | refine Cd.dreg ?_ | refine Cd.skip ?_ | refine Cd.ret ?_ | refine Cd.exit ?_ | refine Cd.loop ?_ | refine ⟨rfl, ?_⟩ | refine ⟨Nat.le_of_ble_eq_true rfl, ?_⟩ | refine ⟨.inl rfl, ?_⟩ | refine ⟨fun h => Bool.noConfusion h, ?_⟩)
      conv => whnf
      refine ⟨by rw [rowsI_len, Int.toNat_natCast]; omega, ?_⟩
      repeat ((conv => whnf); first | refine Cd.seq ?_ | refine Cd.cut ?_ | refine Cd.reg ?_ | refine Cd.block ?_ | refine Cd.cond ?_ | refine Cd.dreg ?_ | refine Cd.skip ?_ | refine Cd.ret ?_ | refine Cd.exit ?_ | refine Cd.loop ?_ | refine ⟨rfl, ?_⟩ | refine ⟨Nat.le_of_ble_eq_true rfl, ?_⟩ | refine ⟨.inl rfl, ?_⟩ | refine ⟨fun h => Bool.noConfusion h, ?_⟩)
      conv => whnf
      rw [hj1, wrapI (n := (K.length : Int) + 1) (by omega) (by omega)]
      refine ⟨(j + 1, R.set K.length l[j]), hkeep, ?_, by show l.length - (j + 1) < l.length - j; omega⟩
      refine viewI [some 0, some 1] rfl rfl ?_ rfl ?_ rfl ?_
      repeat' (first | exact trivial | rfl | exact .inl rfl | exact .inr rfl | exact id | exact (fun h => Bool.noConfusion h) | refine And.intro ?_ ?_)
      · rw [Nat.zero_add, Int.toNat_natCast, rowsI_get R K.length (by omega), rowsI, rowsI, List.map_set]
        rfl
      · show (K.length : Int) + 1 = ((wo (l.take (j + 1)) x).length : Int)
        rw [wk, List.length_append, List.length_singleton]; omega
    have h3 : l[j] = x := by simpa using h3
    have hskip := hskip h3
    have ws := ws h3
    repeat ((conv => whnf); first | refine Cd.seq ?_ | refine Cd.cut ?_ | refine Cd.reg ?_ | refine Cd.block ?_ | refine Cd.cond ?_ | refine Cd.dreg ?_ | refine Cd.skip ?_ | refine Cd.ret ?_ | refine Cd.exit ?_ | refine Cd.loop ?_ | refine ⟨rfl, ?_⟩ | refine ⟨Nat.le_of_ble_eq_true rfl, ?_⟩ | refine ⟨.inl rfl, ?_⟩ | refine ⟨fun h => Bool.noConfusion h, ?_⟩)
    conv => whnf
    rw [hj1]
    refine ⟨(j + 1, R), hskip, ?_, by show l.length - (j + 1) < l.length - j; omega⟩
    dsimp only
    rw [ws]
    refine viewI [some 0, some 1] rfl rfl ?_ rfl ?_ rfl ?_
    repeat' (first | exact trivial | rfl | exact .inl rfl | exact .inr rfl | exact id | exact (fun h => Bool.noConfusion h) | refine And.intro ?_ ?_)
  have h2 : j = l.length := by simp at h2; omega
  subst h2
  have hkept := hp.kept
  rw [List.take_length, hk] at hkept hwl ⊢
  repeat ((conv => whnf); first | refine Cd.seq ?_ | refine Cd.cut ?_ | refine Cd.reg ?_ | refine Cd.block ?_ | refine Cd.cond ?_ | refine Cd.dreg ?_ | refine Cd.skip ?_ | refine Cd.ret ?_ | refine Cd.exit ?_ | refine Cd.loop ?_ | refine ⟨rfl, ?_⟩ | refine ⟨Nat.le_of_ble_eq_true rfl, ?_⟩ | refine ⟨.inl rfl, ?_⟩ | refine ⟨fun h => Bool.noConfusion h, ?_⟩)
  conv => whnf
  refine ⟨fun _ => ⟨by omega, by omega, by omega⟩, ?_⟩
  repeat ((conv => whnf); first | refine Cd.seq ?_ | refine Cd.cut ?_ | refine Cd.reg ?_ | refine Cd.block ?_ | refine Cd.cond ?_ | refine Cd.dreg ?_ | refine Cd.skip ?_ | refine Cd.ret ?_ | refine Cd.exit ?_ | refine Cd.loop ?_ | refine ⟨rfl, ?_⟩ | refine ⟨Nat.le_of_ble_eq_true rfl, ?_⟩ | refine ⟨.inl rfl, ?_⟩ | refine ⟨fun h => Bool.noConfusion h, ?_⟩)
  conv => whnf
  have e1 : ((l.length : Int)).toNat - ((q.length : Int)).toNat = l.length - q.length := by omega
  refine ⟨by rw [rowsI_len]; omega, ?_⟩
  repeat ((conv => whnf); first | refine Cd.seq ?_ | refine Cd.cut ?_ | refine Cd.reg ?_ | refine Cd.block ?_ | refine Cd.cond ?_ | refine Cd.dreg ?_ | refine Cd.skip ?_ | refine Cd.ret ?_ | refine Cd.exit ?_ | refine Cd.loop ?_ | refine ⟨rfl, ?_⟩ | refine ⟨Nat.le_of_ble_eq_true rfl, ?_⟩ | refine ⟨.inl rfl, ?_⟩ | refine ⟨fun h => Bool.noConfusion h, ?_⟩)
  conv => whnf
  refine ⟨fun _ => ⟨by omega, by omega, by omega⟩, ?_⟩
  repeat ((conv => whnf); first | refine Cd.seq ?_ | refine Cd.cut ?_ | refine Cd.reg ?_ | refine Cd.block ?_ | refine Cd.cond ?_ | refine Cd.dreg ?_ | refine Cd.skip ?_ | refine Cd.ret ?_ | refine Cd.exit ?_ | refine Cd.loop ?_ | refine ⟨rfl, ?_⟩ | refine ⟨Nat.le_of_ble_eq_true rfl, ?_⟩ | refine ⟨.inl rfl, ?_⟩ | refine ⟨fun h => Bool.noConfusion h, ?_⟩)
  conv => whnf
  try subst hk
  refine ⟨[some 0, some 1], ?_, rfl, ?_, rfl, ?_⟩
  all_goals repeat' (first | exact trivial | rfl | exact .inl rfl | exact .inr rfl | exact id | exact (fun h => Bool.noConfusion h) | refine And.intro ?_ ?_)
  have e2 : (0 + ((wo l x).length : Int).toNat) = (wo l x).length := by omega
  rw [e1, e2, zrep, rowsI, rowsI, rowsI, List.drop_of_length_le (by rw [List.length_map]; omega), List.append_nil, List.map_append, ← List.map_take, hkept]
set_option maxRecDepth 20000 in
theorem ok71 (l : List Int) (t : Bool) (x : Int) (hl : l.length ≤ 100000) : FnC Try.prog 71 [] [.lst 1 t (rowsI l), .int .i64 x] (.lst 1 false (rowsI (wo l x))) [] := by
  refine fn_okC (ob0 := []) (rc := rc71) (rvs := rv71) Try.func71 rfl rcq71 rvq71 (show 2 ≤ _ by decide) ?_
  generalize hk : wo l x = q
  have hwl := wo_len l x
  repeat ((conv => whnf); first | refine Cd.seq ?_ | refine Cd.cut ?_ | refine Cd.reg ?_ | refine Cd.block ?_ | refine Cd.cond ?_ | refine Cd.dreg ?_ | refine Cd.skip ?_ | refine Cd.ret ?_ | refine Cd.exit ?_ | refine Cd.loop ?_ | refine ⟨rfl, ?_⟩ | refine ⟨Nat.le_of_ble_eq_true rfl, ?_⟩ | refine ⟨.inl rfl, ?_⟩ | refine ⟨fun h => Bool.noConfusion h, ?_⟩)
  conv => whnf
  refine .inr ⟨fun _ => ⟨[], _, _, _, ok75 (rowsI l) t (by rw [rowsI_len]; omega), trivial, rfl, rfl, rfl, rfl, ?_⟩, (by intro h; cases h)⟩
  rw [rowsI_len]
  repeat ((conv => whnf); first | refine Cd.seq ?_ | refine Cd.cut ?_ | refine Cd.reg ?_ | refine Cd.block ?_ | refine Cd.cond ?_ | refine Cd.dreg ?_ | refine Cd.skip ?_ | refine Cd.ret ?_ | refine Cd.exit ?_ | refine Cd.loop ?_ | refine ⟨rfl, ?_⟩ | refine ⟨Nat.le_of_ble_eq_true rfl, ?_⟩ | refine ⟨.inl rfl, ?_⟩ | refine ⟨fun h => Bool.noConfusion h, ?_⟩)
  conv => whnf
  refine .inr ⟨fun _ => ⟨[1, 0], _, _, _, ok82 l x hl, ⟨rfl, rfl, rfl, rfl, trivial⟩, rfl, rfl, rfl, rfl, ?_⟩, (by intro h; cases h)⟩
  rw [hk] at hwl ⊢
  repeat ((conv => whnf); first | refine Cd.seq ?_ | refine Cd.cut ?_ | refine Cd.reg ?_ | refine Cd.block ?_ | refine Cd.cond ?_ | refine Cd.dreg ?_ | refine Cd.skip ?_ | refine Cd.ret ?_ | refine Cd.exit ?_ | refine Cd.loop ?_ | refine ⟨rfl, ?_⟩ | refine ⟨Nat.le_of_ble_eq_true rfl, ?_⟩ | refine ⟨.inl rfl, ?_⟩ | refine ⟨fun h => Bool.noConfusion h, ?_⟩)
  conv => whnf
  refine ⟨[], ?_, rfl, trivial, rfl, ?_⟩
  · exact trivial
  try subst hk
  repeat' (first | exact trivial | rfl | exact .inl rfl | exact .inr rfl | exact id | exact (fun h => Bool.noConfusion h) | refine And.intro ?_ ?_)
  · show 0 + (wo l x).length ≤ _
    rw [rowsI_len, List.length_append]; omega
  · show ((rowsI (wo l x ++ List.replicate (l.length - (wo l x).length) 0)).drop 0).take (wo l x).length = rowsI (wo l x)
    rw [List.drop_zero, rowsI, ← List.map_take, List.take_append_of_le_length (Nat.le_refl _), List.take_length]
    rfl
set_option maxRecDepth 20000 in
theorem ok68 (l : List Int) (t : Bool) (x : Int) (hl : l.length ≤ 100000) : FnC Try.prog 68 [] [.lst 1 t (rowsI l), .int .i64 x] (.lst 1 false (rowsI (x :: wo l x))) [] := by
  have hwl := wo_len l x
  refine fn_okC (ob0 := []) (rc := rc68) (rvs := rv68) Try.func68 rfl rcq68 rvq68 (show 2 ≤ _ by decide) ?_
  repeat ((conv => whnf); first | refine Cd.seq ?_ | refine Cd.cut ?_ | refine Cd.reg ?_ | refine Cd.block ?_ | refine Cd.cond ?_ | refine Cd.dreg ?_ | refine Cd.skip ?_ | refine Cd.ret ?_ | refine Cd.exit ?_ | refine Cd.loop ?_ | refine ⟨rfl, ?_⟩ | refine ⟨Nat.le_of_ble_eq_true rfl, ?_⟩ | refine ⟨.inl rfl, ?_⟩ | refine ⟨fun h => Bool.noConfusion h, ?_⟩ | refine .inl ⟨_, fun _ => ⟨purA rfl, (by first | exact ok71 l t x hl)⟩, .inl rfl, ?_⟩)
  conv => whnf
  rw [rowsI_len]
  refine ⟨by show ((1 + (wo l x).length : Nat) : Int) ≤ _; omega, by show (1 + (wo l x).length) * 8 ≤ _; omega, ?_⟩
  repeat ((conv => whnf); first | refine Cd.seq ?_ | refine Cd.cut ?_ | refine Cd.reg ?_ | refine Cd.block ?_ | refine Cd.cond ?_ | refine Cd.dreg ?_ | refine Cd.skip ?_ | refine Cd.ret ?_ | refine Cd.exit ?_ | refine Cd.loop ?_ | refine ⟨rfl, ?_⟩ | refine ⟨Nat.le_of_ble_eq_true rfl, ?_⟩ | refine ⟨.inl rfl, ?_⟩ | refine ⟨fun h => Bool.noConfusion h, ?_⟩)
  conv => whnf
  refine ⟨[], ?_, rfl, trivial, rfl, ?_⟩
  · exact trivial
  try subst hk
  repeat' (first | exact trivial | rfl | exact .inl rfl | exact .inr rfl | exact id | exact (fun h => Bool.noConfusion h) | refine And.intro ?_ ?_)
  · show 0 + (1 + (wo l x).length) ≤ ([[V.int .i64 x]] ++ rowsI (wo l x)).length
    rw [List.length_append, rowsI_len]; simp
  · show List.take (1 + (wo l x).length) (List.drop 0 ([[V.int .i64 x]] ++ rowsI (wo l x))) = rowsI (x :: wo l x)
    exact take0 (by rw [List.length_append, rowsI_len]; simp)
end Go.Proofs.Ytcifhjkodbaghaa

