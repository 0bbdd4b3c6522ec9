/- Caches. -/
import Derived.Test.YtmhapcbjjpadnaaGreatGB
import Derived.Test.YtmhapcbjjpadnaaGreatG4
set_option linter.unusedSimpArgs false
set_option linter.unusedVariables false
set_option maxRecDepth 40000
namespace Go.Proofs.YtmhapcbjjpadnaaGreat
open Go Go.Sk Go.RowKit

def rc90 : RC :=
  (.seq
  (.reg [⟨(some 4), none, (.mv (.c (.bool false)))⟩] [])
  (.seq
  (.seq
  (.reg [⟨(some 6), none, (.mv (.t 0))⟩,
    ⟨(some 7), none, (.len (.t 6))⟩,
    ⟨(some 8), none, (.mv (.t 1))⟩,
    ⟨(some 9), none, (.len (.t 8))⟩,
    ⟨(some 10), none, (.bin .neq (.t 7) (.t 9))⟩] [6, 7, 8, 9])
  (.cond (.t 10)
   (.seq
   (.reg [⟨(some 4), none, (.mv (.c (.bool false)))⟩] [])
   .ret)
   .skip))
  (.seq
  (.seq
  (.reg [⟨(some 5), none, (.mv (.c (.int .i64 0)))⟩] [])
  (.block 0
   (.loop
    (.seq
    (.seq
    (.reg [⟨(some 11), none, (.mv (.t 5))⟩,
      ⟨(some 12), none, (.mv (.t 0))⟩,
      ⟨(some 13), none, (.len (.t 12))⟩,
      ⟨(some 14), none, (.bin .lss (.t 11) (.t 13))⟩] [11, 12, 13])
    (.cond (.t 14)
     .skip
     (.exit 0)))
    (.seq
    (.block 1
     (.seq
     (.dreg 7168 7312 [⟨(some 17), none, (.mv (.t 0))⟩,
       ⟨(some 18), none, (.mv (.t 5))⟩,
       ⟨(some 19), none, (.iaddr 3 (.t 17) (.t 18))⟩,
       ⟨(some 20), none, (.ld true 3 (.t 19))⟩,
       ⟨(some 21), none, (.mv (.t 1))⟩,
       ⟨(some 22), none, (.mv (.t 5))⟩,
       ⟨(some 23), none, (.iaddr 3 (.t 21) (.t 22))⟩,
       ⟨(some 24), none, (.ld true 3 (.t 23))⟩,
       ⟨(some 25), none, (.eqs true [(0, .i), (1, .i), (2, .i)] (.t 20) (.t 24))⟩] [17, 18, 19, 20, 21, 22, 23, 24] [[], [], [0, 1], [2, 1, 0], [], [], [4, 5], [6, 5, 4], [3, 0, 1, 2, 7, 4, 5, 6]] [7168, 7184, 7200, 7216, 7232, 7248, 7264, 7280, 7296])
     (.cond (.t 25)
      (.seq
      (.reg [⟨(some 4), none, (.mv (.c (.bool false)))⟩] [])
      .ret)
      .skip)))
    (.reg [⟨(some 15), none, (.mv (.t 5))⟩,
      ⟨(some 16), none, (.bin .add (.t 15) (.c (.int .i64 1)))⟩,
      ⟨(some 5), none, (.mv (.t 16))⟩] [15, 16]))))))
  (.seq
  (.reg [⟨(some 4), none, (.mv (.c (.bool true)))⟩] [])
  .ret))))
theorem rcq90 : resC Go.Proofs.Tryz.prog Go.Proofs.Tryz.f90.ntmps ((Go.Proofs.Tryz.f90.body).getD .skip) = some (strip rc90) := by kernel_rfl
set_option maxRecDepth 20000 in
theorem ok90 (a : List Gr) (ta tb : Bool) (ha : a.length ≤ 100000) : FnC Tryz.prog 90 [] [.lst 3 ta (rowsG a), .lst 3 tb (rowsG a)] (.bool true) [] := by
  refine fn_okX [] Tryz.func90 rfl rfl (resX_of rcq90 rfl) rfl ?_
  repeat ((conv => whnf); first | refine Cd.go ?_ | refine ⟨rfl, ?_⟩ | refine rq_dec ⟨.inl rfl, rfl⟩ ?_ | refine rq_dec rfl ?_ | refine ⟨Nat.le_of_ble_eq_true rfl, ?_⟩ | refine ⟨.inl rfl, ?_⟩ | refine ⟨fun _ => ⟨rfl, Nat.le_of_ble_eq_true rfl⟩, ?_⟩ | refine ⟨fun _ => Nat.le_of_ble_eq_true rfl, ?_⟩ | refine ⟨fun h => Bool.noConfusion h, ?_⟩)
  conv => whnf
  refine cq_intro (fun h1 => ?_) (fun h1 => ?_) <;> try simp only [Bool.cond_true_left, Bool.cond_false_right, Bool.not_eq_true', Bool.not_eq_false', Bool.not_not] at h1
  · simp at h1
  repeat ((conv => whnf); first | refine Cd.go ?_ | refine ⟨rfl, ?_⟩ | refine rq_dec ⟨.inl rfl, rfl⟩ ?_ | refine rq_dec rfl ?_ | refine ⟨Nat.le_of_ble_eq_true rfl, ?_⟩ | refine ⟨.inl rfl, ?_⟩ | refine ⟨fun _ => ⟨rfl, Nat.le_of_ble_eq_true rfl⟩, ?_⟩ | refine ⟨fun _ => Nat.le_of_ble_eq_true rfl, ?_⟩ | refine ⟨fun h => Bool.noConfusion h, ?_⟩)
  conv => whnf
  refine ⟨Nat, fun i => i ≤ a.length, fun i => ⟨[(0, ⟨[], true, .lst 3 ta (rowsG a)⟩), (1, ⟨[], true, .lst 3 tb (rowsG a)⟩), (5, ⟨[], true, .int .i64 (i : Int)⟩)], [], 0⟩, fun i => a.length - i, ⟨0, Nat.zero_le _, ?_⟩, fun i hI => ?_⟩
  · refine viewI [] rfl rfl ?_ rfl ?_ rfl ?_
    repeat' (first | exact trivial | rfl | exact .inl rfl | exact .inr rfl | exact id | exact (fun h => Bool.noConfusion h) | refine And.intro ?_ ?_)
  dsimp only at hI ⊢
  repeat ((conv => whnf); first | refine Cd.go ?_ | refine ⟨rfl, ?_⟩ | refine rq_dec ⟨.inl rfl, rfl⟩ ?_ | refine rq_dec rfl ?_ | refine ⟨Nat.le_of_ble_eq_true rfl, ?_⟩ | refine ⟨.inl rfl, ?_⟩ | refine ⟨fun _ => ⟨rfl, Nat.le_of_ble_eq_true rfl⟩, ?_⟩ | refine ⟨fun _ => Nat.le_of_ble_eq_true rfl, ?_⟩ | refine ⟨fun h => Bool.noConfusion h, ?_⟩)
  conv => whnf
  rw [rowsG_len]
  refine cq_intro (fun h2 => ?_) (fun h2 => ?_) <;> try simp only [Bool.cond_true_left, Bool.cond_false_right, Bool.not_eq_true', Bool.not_eq_false', Bool.not_not] at h2
  · have h2 : i < a.length := by simp at h2; omega
    repeat ((conv => whnf); first | refine Cd.go ?_ | refine ⟨rfl, ?_⟩ | refine rq_dec ⟨.inl rfl, rfl⟩ ?_ | refine rq_dec rfl ?_ | refine ⟨Nat.le_of_ble_eq_true rfl, ?_⟩ | refine ⟨.inl rfl, ?_⟩ | refine ⟨fun _ => ⟨rfl, Nat.le_of_ble_eq_true rfl⟩, ?_⟩ | refine ⟨fun _ => Nat.le_of_ble_eq_true rfl, ?_⟩ | refine ⟨fun h => Bool.noConfusion h, ?_⟩)
    conv => whnf
    first | refine rq_dec (⟨rfl, by omega, by rw [rowsG_len]; omega⟩) ?_ | refine gq_dec (fun _ => ⟨rfl, by omega, by rw [rowsG_len]; omega⟩) ?_ | refine ⟨fun _ => ⟨rfl, by omega, by rw [rowsG_len]; omega⟩, ?_⟩
    rw [rowsG_getK a i h2]
    repeat ((conv => whnf); first | refine Cd.go ?_ | refine ⟨rfl, ?_⟩ | refine rq_dec ⟨.inl rfl, rfl⟩ ?_ | refine rq_dec rfl ?_ | refine ⟨Nat.le_of_ble_eq_true rfl, ?_⟩ | refine ⟨.inl rfl, ?_⟩ | refine ⟨fun _ => ⟨rfl, Nat.le_of_ble_eq_true rfl⟩, ?_⟩ | refine ⟨fun _ => Nat.le_of_ble_eq_true rfl, ?_⟩ | refine ⟨fun h => Bool.noConfusion h, ?_⟩)
    conv => whnf
    first | refine rq_dec (⟨rfl, by omega, by rw [rowsG_len]; omega⟩) ?_ | refine gq_dec (fun _ => ⟨rfl, by omega, by rw [rowsG_len]; omega⟩) ?_ | refine ⟨fun _ => ⟨rfl, by omega, by rw [rowsG_len]; omega⟩, ?_⟩
    rw [rowsG_getK a i h2]
    repeat ((conv => whnf); first | refine Cd.go ?_ | refine ⟨rfl, ?_⟩ | refine rq_dec ⟨.inl rfl, rfl⟩ ?_ | refine rq_dec rfl ?_ | refine ⟨Nat.le_of_ble_eq_true rfl, ?_⟩ | refine ⟨.inl rfl, ?_⟩ | refine ⟨fun _ => ⟨rfl, Nat.le_of_ble_eq_true rfl⟩, ?_⟩ | refine ⟨fun _ => Nat.le_of_ble_eq_true rfl, ?_⟩ | refine ⟨fun h => Bool.noConfusion h, ?_⟩)
    conv => whnf
    refine cq_intro (fun h3 => ?_) (fun h3 => ?_) <;> try simp only [Bool.cond_true_left, Bool.cond_false_right, Bool.not_eq_true', Bool.not_eq_false', Bool.not_not] at h3
    · simp at h3
    repeat ((conv => whnf); first | refine Cd.go ?_ | refine ⟨rfl, ?_⟩ | refine rq_dec ⟨.inl rfl, rfl⟩ ?_ | refine rq_dec rfl ?_ | refine ⟨Nat.le_of_ble_eq_true rfl, ?_⟩ | refine ⟨.inl rfl, ?_⟩ | refine ⟨fun _ => ⟨rfl, Nat.le_of_ble_eq_true rfl⟩, ?_⟩ | refine ⟨fun _ => Nat.le_of_ble_eq_true rfl, ?_⟩ | refine ⟨fun h => Bool.noConfusion h, ?_⟩)
    conv => whnf
    rw [wrapS (by omega)]
    refine ⟨i + 1, by show i + 1 ≤ _; omega, ?_, by show a.length - (i + 1) < a.length - i; omega⟩
    refine viewI [] rfl rfl ?_ rfl ?_ rfl ?_
    repeat' (first | exact trivial | rfl | exact .inl rfl | exact .inr rfl | exact id | exact (fun h => Bool.noConfusion h) | refine And.intro ?_ ?_)
  have h2 : i = a.length := by simp at h2; omega
  repeat ((conv => whnf); first | refine Cd.go ?_ | refine ⟨rfl, ?_⟩ | refine rq_dec ⟨.inl rfl, rfl⟩ ?_ | refine rq_dec rfl ?_ | refine ⟨Nat.le_of_ble_eq_true rfl, ?_⟩ | refine ⟨.inl rfl, ?_⟩ | refine ⟨fun _ => ⟨rfl, Nat.le_of_ble_eq_true rfl⟩, ?_⟩ | refine ⟨fun _ => Nat.le_of_ble_eq_true rfl, ?_⟩ | refine ⟨fun h => Bool.noConfusion h, ?_⟩)
  conv => whnf
  refine ⟨[], trivial, rfl, trivial, rfl, ?_⟩
  try subst hk
  repeat' (first | exact trivial | rfl | exact .inl rfl | exact .inr rfl | exact id | exact (fun h => Bool.noConfusion h) | refine And.intro ?_ ?_)
def rc92 : RC :=
  (.seq
  (.reg [⟨(some 4), none, (.mv (.c (.bool false)))⟩] [])
  (.seq
  (.seq
  (.reg [⟨(some 6), none, (.mv (.t 0))⟩,
    ⟨(some 7), none, (.len (.t 6))⟩,
    ⟨(some 8), none, (.mv (.t 1))⟩,
    ⟨(some 9), none, (.len (.t 8))⟩,
    ⟨(some 10), none, (.bin .neq (.t 7) (.t 9))⟩] [6, 7, 8, 9])
  (.cond (.t 10)
   (.seq
   (.reg [⟨(some 4), none, (.mv (.c (.bool false)))⟩] [])
   .ret)
   .skip))
  (.seq
  (.seq
  (.reg [⟨(some 5), none, (.mv (.c (.int .i64 0)))⟩] [])
  (.block 0
   (.loop
    (.seq
    (.seq
    (.reg [⟨(some 11), none, (.mv (.t 5))⟩,
      ⟨(some 12), none, (.mv (.t 0))⟩,
      ⟨(some 13), none, (.len (.t 12))⟩,
      ⟨(some 14), none, (.bin .lss (.t 11) (.t 13))⟩] [11, 12, 13])
    (.cond (.t 14)
     .skip
     (.exit 0)))
    (.seq
    (.block 1
     (.seq
     (.dreg 7168 7312 [⟨(some 17), none, (.mv (.t 0))⟩,
       ⟨(some 18), none, (.mv (.t 5))⟩,
       ⟨(some 19), none, (.iaddr 5 (.t 17) (.t 18))⟩,
       ⟨(some 20), none, (.ld true 5 (.t 19))⟩,
       ⟨(some 21), none, (.mv (.t 1))⟩,
       ⟨(some 22), none, (.mv (.t 5))⟩,
       ⟨(some 23), none, (.iaddr 5 (.t 21) (.t 22))⟩,
       ⟨(some 24), none, (.ld true 5 (.t 23))⟩,
       ⟨(some 25), none, (.eqs true [(0, .i), (1, .i), (2, .i), (3, .b), (4, .b)] (.t 20) (.t 24))⟩] [17, 18, 19, 20, 21, 22, 23, 24] [[], [], [0, 1], [2, 1, 0], [], [], [4, 5], [6, 5, 4], [3, 0, 1, 2, 7, 4, 5, 6]] [7168, 7184, 7200, 7216, 7232, 7248, 7264, 7280, 7296])
     (.cond (.t 25)
      (.seq
      (.reg [⟨(some 4), none, (.mv (.c (.bool false)))⟩] [])
      .ret)
      .skip)))
    (.reg [⟨(some 15), none, (.mv (.t 5))⟩,
      ⟨(some 16), none, (.bin .add (.t 15) (.c (.int .i64 1)))⟩,
      ⟨(some 5), none, (.mv (.t 16))⟩] [15, 16]))))))
  (.seq
  (.reg [⟨(some 4), none, (.mv (.c (.bool true)))⟩] [])
  .ret))))
theorem rcq92 : resC Go.Proofs.Tryz.prog Go.Proofs.Tryz.f92.ntmps ((Go.Proofs.Tryz.f92.body).getD .skip) = some (strip rc92) := by kernel_rfl
set_option maxRecDepth 20000 in
theorem ok92 (a : List Pt) (ta tb : Bool) (ha : a.length ≤ 100000) : FnC Tryz.prog 92 [] [.lst 5 ta (rowsT a), .lst 5 tb (rowsT a)] (.bool true) [] := by
  refine fn_okX [] Tryz.func92 rfl rfl (resX_of rcq92 rfl) rfl ?_
  repeat ((conv => whnf); first | refine Cd.go ?_ | refine ⟨rfl, ?_⟩ | refine rq_dec ⟨.inl rfl, rfl⟩ ?_ | refine rq_dec rfl ?_ | refine ⟨Nat.le_of_ble_eq_true rfl, ?_⟩ | refine ⟨.inl rfl, ?_⟩ | refine ⟨fun _ => ⟨rfl, Nat.le_of_ble_eq_true rfl⟩, ?_⟩ | refine ⟨fun _ => Nat.le_of_ble_eq_true rfl, ?_⟩ | refine ⟨fun h => Bool.noConfusion h, ?_⟩)
  conv => whnf
  refine cq_intro (fun h1 => ?_) (fun h1 => ?_) <;> try simp only [Bool.cond_true_left, Bool.cond_false_right, Bool.not_eq_true', Bool.not_eq_false', Bool.not_not] at h1
  · simp at h1
  repeat ((conv => whnf); first | refine Cd.go ?_ | refine ⟨rfl, ?_⟩ | refine rq_dec ⟨.inl rfl, rfl⟩ ?_ | refine rq_dec rfl ?_ | refine ⟨Nat.le_of_ble_eq_true rfl, ?_⟩ | refine ⟨.inl rfl, ?_⟩ | refine ⟨fun _ => ⟨rfl, Nat.le_of_ble_eq_true rfl⟩, ?_⟩ | refine ⟨fun _ => Nat.le_of_ble_eq_true rfl, ?_⟩ | refine ⟨fun h => Bool.noConfusion h, ?_⟩)
  conv => whnf
  refine ⟨Nat, fun i => i ≤ a.length, fun i => ⟨[(0, ⟨[], true, .lst 5 ta (rowsT a)⟩), (1, ⟨[], true, .lst 5 tb (rowsT a)⟩), (5, ⟨[], true, .int .i64 (i : Int)⟩)], [], 0⟩, fun i => a.length - i, ⟨0, Nat.zero_le _, ?_⟩, fun i hI => ?_⟩
  · refine viewI [] rfl rfl ?_ rfl ?_ rfl ?_
    repeat' (first | exact trivial | rfl | exact .inl rfl | exact .inr rfl | exact id | exact (fun h => Bool.noConfusion h) | refine And.intro ?_ ?_)
  dsimp only at hI ⊢
  repeat ((conv => whnf); first | refine Cd.go ?_ | refine ⟨rfl, ?_⟩ | refine rq_dec ⟨.inl rfl, rfl⟩ ?_ | refine rq_dec rfl ?_ | refine ⟨Nat.le_of_ble_eq_true rfl, ?_⟩ | refine ⟨.inl rfl, ?_⟩ | refine ⟨fun _ => ⟨rfl, Nat.le_of_ble_eq_true rfl⟩, ?_⟩ | refine ⟨fun _ => Nat.le_of_ble_eq_true rfl, ?_⟩ | refine ⟨fun h => Bool.noConfusion h, ?_⟩)
  conv => whnf
  rw [rowsT_len]
  refine cq_intro (fun h2 => ?_) (fun h2 => ?_) <;> try simp only [Bool.cond_true_left, Bool.cond_false_right, Bool.not_eq_true', Bool.not_eq_false', Bool.not_not] at h2
  · have h2 : i < a.length := by simp at h2; omega
    repeat ((conv => whnf); first | refine Cd.go ?_ | refine ⟨rfl, ?_⟩ | refine rq_dec ⟨.inl rfl, rfl⟩ ?_ | refine rq_dec rfl ?_ | refine ⟨Nat.le_of_ble_eq_true rfl, ?_⟩ | refine ⟨.inl rfl, ?_⟩ | refine ⟨fun _ => ⟨rfl, Nat.le_of_ble_eq_true rfl⟩, ?_⟩ | refine ⟨fun _ => Nat.le_of_ble_eq_true rfl, ?_⟩ | refine ⟨fun h => Bool.noConfusion h, ?_⟩)
    conv => whnf
    first | refine rq_dec (⟨rfl, by omega, by rw [rowsT_len]; omega⟩) ?_ | refine gq_dec (fun _ => ⟨rfl, by omega, by rw [rowsT_len]; omega⟩) ?_ | refine ⟨fun _ => ⟨rfl, by omega, by rw [rowsT_len]; omega⟩, ?_⟩
    rw [rowsT_getK a i h2]
    repeat ((conv => whnf); first | refine Cd.go ?_ | refine ⟨rfl, ?_⟩ | refine rq_dec ⟨.inl rfl, rfl⟩ ?_ | refine rq_dec rfl ?_ | refine ⟨Nat.le_of_ble_eq_true rfl, ?_⟩ | refine ⟨.inl rfl, ?_⟩ | refine ⟨fun _ => ⟨rfl, Nat.le_of_ble_eq_true rfl⟩, ?_⟩ | refine ⟨fun _ => Nat.le_of_ble_eq_true rfl, ?_⟩ | refine ⟨fun h => Bool.noConfusion h, ?_⟩)
    conv => whnf
    first | refine rq_dec (⟨rfl, by omega, by rw [rowsT_len]; omega⟩) ?_ | refine gq_dec (fun _ => ⟨rfl, by omega, by rw [rowsT_len]; omega⟩) ?_ | refine ⟨fun _ => ⟨rfl, by omega, by rw [rowsT_len]; omega⟩, ?_⟩
    rw [rowsT_getK a i h2]
    repeat ((conv => whnf); first | refine Cd.go ?_ | refine ⟨rfl, ?_⟩ | refine rq_dec ⟨.inl rfl, rfl⟩ ?_ | refine rq_dec rfl ?_ | refine ⟨Nat.le_of_ble_eq_true rfl, ?_⟩ | refine ⟨.inl rfl, ?_⟩ | refine ⟨fun _ => ⟨rfl, Nat.le_of_ble_eq_true rfl⟩, ?_⟩ | refine ⟨fun _ => Nat.le_of_ble_eq_true rfl, ?_⟩ | refine ⟨fun h => Bool.noConfusion h, ?_⟩)
    conv => whnf
    refine cq_intro (fun h3 => ?_) (fun h3 => ?_) <;> try simp only [Bool.cond_true_left, Bool.cond_false_right, Bool.not_eq_true', Bool.not_eq_false', Bool.not_not] at h3
    · simp at h3
    repeat ((conv => whnf); first | refine Cd.go ?_ | refine ⟨rfl, ?_⟩ | refine rq_dec ⟨.inl rfl, rfl⟩ ?_ | refine rq_dec rfl ?_ | refine ⟨Nat.le_of_ble_eq_true rfl, ?_⟩ | refine ⟨.inl rfl, ?_⟩ | refine ⟨fun _ => ⟨rfl, Nat.le_of_ble_eq_true rfl⟩, ?_⟩ | refine ⟨fun _ => Nat.le_of_ble_eq_true rfl, ?_⟩ | refine ⟨fun h => Bool.noConfusion h, ?_⟩)
    conv => whnf
    rw [wrapS (by omega)]
    refine ⟨i + 1, by show i + 1 ≤ _; omega, ?_, by show a.length - (i + 1) < a.length - i; omega⟩
    refine viewI [] rfl rfl ?_ rfl ?_ rfl ?_
    repeat' (first | exact trivial | rfl | exact .inl rfl | exact .inr rfl | exact id | exact (fun h => Bool.noConfusion h) | refine And.intro ?_ ?_)
  have h2 : i = a.length := by simp at h2; omega
  repeat ((conv => whnf); first | refine Cd.go ?_ | refine ⟨rfl, ?_⟩ | refine rq_dec ⟨.inl rfl, rfl⟩ ?_ | refine rq_dec rfl ?_ | refine ⟨Nat.le_of_ble_eq_true rfl, ?_⟩ | refine ⟨.inl rfl, ?_⟩ | refine ⟨fun _ => ⟨rfl, Nat.le_of_ble_eq_true rfl⟩, ?_⟩ | refine ⟨fun _ => Nat.le_of_ble_eq_true rfl, ?_⟩ | refine ⟨fun h => Bool.noConfusion h, ?_⟩)
  conv => whnf
  refine ⟨[], trivial, rfl, trivial, rfl, ?_⟩
  try subst hk
  repeat' (first | exact trivial | rfl | exact .inl rfl | exact .inr rfl | exact id | exact (fun h => Bool.noConfusion h) | refine And.intro ?_ ?_)
/-- What is small of a cache. -/
structure SmallC (c : Ca) : Prop where
  fl : c.fl.length ≤ 100000
  fr : c.fr.length ≤ 100000
  zo : SmallZ c.zo
  gr : c.gr.length ≤ 100000
  ls : c.ls.length ≤ 100000
  lz : ∀ l ∈ c.ls, SmallL l
  ck : c.ck.length ≤ 100000
  pt : c.pt.length ≤ 100000
theorem getD_mem {α : Type} {l : List α} {i : Nat} (d : α) (h : i < l.length) : l.getD i d ∈ l := by
  simp only [List.getD_eq_getElem?_getD, h, List.getElem?_eq_getElem, Option.getD_some]; exact List.getElem_mem h
theorem strEq_self (b : ByteArray) : strEq b b = true := by simp [strEq]
def rc18 : RC :=
  (.seq
  (.reg [⟨(some 2), none, (.box (.t 0))⟩,
    ⟨(some 3), none, (.box (.t 1))⟩,
    ⟨(some 4), none, (.mv (.c (.bool false)))⟩] [])
  (.seq
  (.seq
  (.reg [⟨(some 10), none, (.faddr 0 (.t 2))⟩,
    ⟨(some 11), none, (.ld false 1 (.t 10))⟩,
    ⟨(some 12), none, (.len (.t 11))⟩,
    ⟨(some 13), none, (.faddr 0 (.t 3))⟩,
    ⟨(some 14), none, (.ld false 1 (.t 13))⟩,
    ⟨(some 15), none, (.len (.t 14))⟩,
    ⟨(some 16), none, (.bin .neq (.t 12) (.t 15))⟩,
    ⟨(some 17), none, (.mv (.t 16))⟩,
    ⟨(some 18), (some (17, false)), (.faddr 1 (.t 2))⟩,
    ⟨(some 19), (some (17, false)), (.ld false 1 (.t 18))⟩,
    ⟨(some 20), (some (17, false)), (.len (.t 19))⟩,
    ⟨(some 21), (some (17, false)), (.faddr 1 (.t 3))⟩,
    ⟨(some 22), (some (17, false)), (.ld false 1 (.t 21))⟩,
    ⟨(some 23), (some (17, false)), (.len (.t 22))⟩,
    ⟨(some 24), (some (17, false)), (.bin .neq (.t 20) (.t 23))⟩,
    ⟨(some 25), none, (.pick (.t 17) (.c (.bool true)) (.t 24))⟩,
    ⟨(some 26), none, (.mv (.t 25))⟩,
    ⟨(some 27), (some (26, false)), (.faddr 4 (.t 2))⟩,
    ⟨(some 28), (some (26, false)), (.ld false 1 (.t 27))⟩,
    ⟨(some 29), (some (26, false)), (.len (.t 28))⟩,
    ⟨(some 30), (some (26, false)), (.faddr 4 (.t 3))⟩,
    ⟨(some 31), (some (26, false)), (.ld false 1 (.t 30))⟩,
    ⟨(some 32), (some (26, false)), (.len (.t 31))⟩,
    ⟨(some 33), (some (26, false)), (.bin .neq (.t 29) (.t 32))⟩,
    ⟨(some 34), none, (.pick (.t 26) (.c (.bool true)) (.t 33))⟩,
    ⟨(some 35), none, (.mv (.t 34))⟩,
    ⟨(some 36), (some (35, false)), (.faddr 2 (.t 2))⟩,
    ⟨(some 37), (some (35, false)), (.ld false 1 (.t 36))⟩,
    ⟨(some 38), (some (35, false)), (.faddr 2 (.t 3))⟩,
    ⟨(some 39), (some (35, false)), (.ld false 1 (.t 38))⟩,
    ⟨(some 40), (some (35, false)), (.call 89 [(.t 37), (.t 39)])⟩,
    ⟨(some 41), (some (35, false)), (.un .not (.t 40))⟩,
    ⟨(some 42), none, (.pick (.t 35) (.c (.bool true)) (.t 41))⟩,
    ⟨(some 43), none, (.mv (.t 42))⟩,
    ⟨(some 44), (some (43, false)), (.faddr 3 (.t 2))⟩,
    ⟨(some 45), (some (43, false)), (.ld false 1 (.t 44))⟩,
    ⟨(some 46), (some (43, false)), (.faddr 3 (.t 3))⟩,
    ⟨(some 47), (some (43, false)), (.ld false 1 (.t 46))⟩,
    ⟨(some 48), (some (43, false)), (.call 90 [(.t 45), (.t 47)])⟩,
    ⟨(some 49), (some (43, false)), (.un .not (.t 48))⟩,
    ⟨(some 50), none, (.pick (.t 43) (.c (.bool true)) (.t 49))⟩,
    ⟨(some 51), none, (.mv (.t 50))⟩,
    ⟨(some 52), (some (51, false)), (.faddr 5 (.t 2))⟩,
    ⟨(some 53), (some (51, false)), (.ld false 1 (.t 52))⟩,
    ⟨(some 54), (some (51, false)), (.faddr 5 (.t 3))⟩,
    ⟨(some 55), (some (51, false)), (.ld false 1 (.t 54))⟩,
    ⟨(some 56), (some (51, false)), (.call 91 [(.t 53), (.t 55)])⟩,
    ⟨(some 57), (some (51, false)), (.un .not (.t 56))⟩,
    ⟨(some 58), none, (.pick (.t 51) (.c (.bool true)) (.t 57))⟩,
    ⟨(some 59), none, (.mv (.t 58))⟩,
    ⟨(some 60), (some (59, false)), (.faddr 6 (.t 2))⟩,
    ⟨(some 61), (some (59, false)), (.ld false 1 (.t 60))⟩,
    ⟨(some 62), (some (59, false)), (.faddr 6 (.t 3))⟩,
    ⟨(some 63), (some (59, false)), (.ld false 1 (.t 62))⟩,
    ⟨(some 64), (some (59, false)), (.call 92 [(.t 61), (.t 63)])⟩,
    ⟨(some 65), (some (59, false)), (.un .not (.t 64))⟩,
    ⟨(some 66), none, (.pick (.t 59) (.c (.bool true)) (.t 65))⟩] [10, 11, 12, 13, 14, 15, 16, 17, 18, 19, 20, 21, 22, 23, 24, 25, 26, 27, 28, 29, 30, 31, 32, 33, 34, 35, 36, 37, 38, 39, 40, 41, 42, 43, 44, 45, 46, 47, 48, 49, 50, 51, 52, 53, 54, 55, 56, 57, 58, 59, 60, 61, 62, 63, 64, 65])
  (.cond (.t 66)
   (.seq
   (.reg [⟨(some 4), none, (.mv (.c (.bool false)))⟩] [])
   .ret)
   .skip))
  (.seq
  (.seq
  (.reg [⟨(some 5), none, (.mv (.c (.int .i64 0)))⟩] [])
  (.block 0
   (.loop
    (.seq
    (.seq
    (.reg [⟨(some 67), none, (.mv (.t 5))⟩,
      ⟨(some 68), none, (.faddr 0 (.t 2))⟩,
      ⟨(some 69), none, (.ld false 1 (.t 68))⟩,
      ⟨(some 70), none, (.len (.t 69))⟩,
      ⟨(some 71), none, (.bin .lss (.t 67) (.t 70))⟩] [67, 68, 69, 70])
    (.cond (.t 71)
     .skip
     (.exit 0)))
    (.seq
    (.block 1
     (.seq
     (.dreg 7168 7392 [⟨(some 74), none, (.faddr 0 (.t 2))⟩,
       ⟨(some 75), none, (.ld false 1 (.t 74))⟩,
       ⟨(some 76), none, (.mv (.t 5))⟩,
       ⟨(some 77), none, (.iaddr 15 (.t 75) (.t 76))⟩,
       ⟨(some 78), none, (.ld true 15 (.t 77))⟩,
       ⟨(some 79), none, (.faddr 0 (.t 3))⟩,
       ⟨(some 80), none, (.ld false 1 (.t 79))⟩,
       ⟨(some 81), none, (.mv (.t 5))⟩,
       ⟨(some 82), none, (.iaddr 15 (.t 80) (.t 81))⟩,
       ⟨(some 83), none, (.ld true 15 (.t 82))⟩,
       ⟨(some 6), none, (.alloc [(.int .i64 0), (.int .i64 0), (.int .i64 0), (.lst 0 true []), (.int .i64 0), (.int .i64 0), (.int .i64 0), (.int .i64 0), (.int .i64 0), (.int .i64 0), (.int .i64 0), (.int .i64 0), (.int .i64 0), (.int .i64 0), (.int .i64 0)])⟩,
       ⟨(some 7), none, (.alloc [(.int .i64 0), (.int .i64 0), (.int .i64 0), (.lst 0 true []), (.int .i64 0), (.int .i64 0), (.int .i64 0), (.int .i64 0), (.int .i64 0), (.int .i64 0), (.int .i64 0), (.int .i64 0), (.int .i64 0), (.int .i64 0), (.int .i64 0)])⟩,
       ⟨none, none, (.st 15 (.t 6) (.t 78))⟩,
       ⟨none, none, (.st 15 (.t 7) (.t 83))⟩] [74, 75, 76, 77, 78, 79, 80, 81, 82, 83] [[], [0], [], [1, 0, 2], [3, 2, 0, 1], [], [5], [], [6, 5, 7], [8, 7, 5, 6], [], [], [4, 1, 0, 2, 3, 10, 11], [9, 6, 5, 7, 8, 12, 11, 10, 3, 2, 0, 1, 4]] [7168, 7184, 7200, 7216, 7232, 7248, 7264, 7280, 7296, 7312, 7328, 7344, 7360, 7376])
     (.seq
     (.reg [⟨(some 84), none, (.faddr 0 (.t 6))⟩,
       ⟨(some 85), none, (.ld true 2 (.t 84))⟩,
       ⟨(some 86), none, (.faddr 0 (.t 7))⟩,
       ⟨(some 87), none, (.ld true 2 (.t 86))⟩,
       ⟨(some 88), none, (.eqs true [(0, .i), (1, .i)] (.t 85) (.t 87))⟩,
       ⟨(some 89), none, (.mv (.t 88))⟩,
       ⟨(some 90), (some (89, false)), (.faddr 6 (.t 6))⟩,
       ⟨(some 91), (some (89, false)), (.ld false 1 (.t 90))⟩,
       ⟨(some 92), (some (89, false)), (.faddr 6 (.t 7))⟩,
       ⟨(some 93), (some (89, false)), (.ld false 1 (.t 92))⟩,
       ⟨(some 94), (some (89, false)), (.bin .neq (.t 91) (.t 93))⟩,
       ⟨(some 95), none, (.pick (.t 89) (.c (.bool true)) (.t 94))⟩,
       ⟨(some 96), none, (.mv (.t 95))⟩,
       ⟨(some 97), (some (96, false)), (.faddr 7 (.t 6))⟩,
       ⟨(some 98), (some (96, false)), (.ld false 1 (.t 97))⟩,
       ⟨(some 99), (some (96, false)), (.faddr 7 (.t 7))⟩,
       ⟨(some 100), (some (96, false)), (.ld false 1 (.t 99))⟩,
       ⟨(some 101), (some (96, false)), (.bin .neq (.t 98) (.t 100))⟩,
       ⟨(some 102), none, (.pick (.t 96) (.c (.bool true)) (.t 101))⟩,
       ⟨(some 103), none, (.mv (.t 102))⟩,
       ⟨(some 104), (some (103, false)), (.faddr 8 (.t 6))⟩,
       ⟨(some 105), (some (103, false)), (.ld true 2 (.t 104))⟩,
       ⟨(some 106), (some (103, false)), (.faddr 8 (.t 7))⟩,
       ⟨(some 107), (some (103, false)), (.ld true 2 (.t 106))⟩,
       ⟨(some 108), (some (103, false)), (.eqs true [(0, .i), (1, .i)] (.t 105) (.t 107))⟩,
       ⟨(some 109), none, (.pick (.t 103) (.c (.bool true)) (.t 108))⟩,
       ⟨(some 110), none, (.mv (.t 109))⟩,
       ⟨(some 111), (some (110, false)), (.faddr 10 (.t 6))⟩,
       ⟨(some 112), (some (110, false)), (.ld true 3 (.t 111))⟩,
       ⟨(some 113), (some (110, false)), (.faddr 10 (.t 7))⟩,
       ⟨(some 114), (some (110, false)), (.ld true 3 (.t 113))⟩,
       ⟨(some 115), (some (110, false)), (.eqs true [(0, .i), (1, .i), (2, .i)] (.t 112) (.t 114))⟩,
       ⟨(some 116), none, (.pick (.t 110) (.c (.bool true)) (.t 115))⟩,
       ⟨(some 117), none, (.mv (.t 116))⟩,
       ⟨(some 118), (some (117, false)), (.faddr 13 (.t 6))⟩,
       ⟨(some 119), (some (117, false)), (.ld false 1 (.t 118))⟩,
       ⟨(some 120), (some (117, false)), (.faddr 13 (.t 7))⟩,
       ⟨(some 121), (some (117, false)), (.ld false 1 (.t 120))⟩,
       ⟨(some 122), (some (117, false)), (.bin .neq (.t 119) (.t 121))⟩,
       ⟨(some 123), none, (.pick (.t 117) (.c (.bool true)) (.t 122))⟩,
       ⟨(some 124), none, (.mv (.t 123))⟩,
       ⟨(some 125), (some (124, false)), (.faddr 14 (.t 6))⟩,
       ⟨(some 126), (some (124, false)), (.ld false 1 (.t 125))⟩,
       ⟨(some 127), (some (124, false)), (.faddr 14 (.t 7))⟩,
       ⟨(some 128), (some (124, false)), (.ld false 1 (.t 127))⟩,
       ⟨(some 129), (some (124, false)), (.bin .neq (.t 126) (.t 128))⟩,
       ⟨(some 130), none, (.pick (.t 124) (.c (.bool true)) (.t 129))⟩,
       ⟨(some 131), none, (.mv (.t 130))⟩,
       ⟨(some 132), (some (131, false)), (.faddr 2 (.t 6))⟩,
       ⟨(some 133), (some (131, false)), (.ld true 4 (.t 132))⟩,
       ⟨(some 134), (some (131, false)), (.faddr 2 (.t 7))⟩,
       ⟨(some 135), (some (131, false)), (.ld true 4 (.t 134))⟩,
       ⟨(some 136), (some (131, false)), (.call 93 [(.t 133), (.t 135)])⟩,
       ⟨(some 137), (some (131, false)), (.un .not (.t 136))⟩,
       ⟨(some 138), none, (.pick (.t 131) (.c (.bool true)) (.t 137))⟩] [84, 85, 86, 87, 88, 89, 90, 91, 92, 93, 94, 95, 96, 97, 98, 99, 100, 101, 102, 103, 104, 105, 106, 107, 108, 109, 110, 111, 112, 113, 114, 115, 116, 117, 118, 119, 120, 121, 122, 123, 124, 125, 126, 127, 128, 129, 130, 131, 132, 133, 134, 135, 136, 137])
     (.cond (.t 138)
      (.seq
      (.reg [⟨(some 4), none, (.mv (.c (.bool false)))⟩] [])
      .ret)
      .skip))))
    (.reg [⟨(some 72), none, (.mv (.t 5))⟩,
      ⟨(some 73), none, (.bin .add (.t 72) (.c (.int .i64 1)))⟩,
      ⟨(some 5), none, (.mv (.t 73))⟩] [72, 73]))))))
  (.seq
  (.seq
  (.reg [⟨(some 8), none, (.mv (.c (.int .i64 0)))⟩] [])
  (.block 2
   (.loop
    (.seq
    (.seq
    (.reg [⟨(some 139), none, (.mv (.t 8))⟩,
      ⟨(some 140), none, (.faddr 1 (.t 2))⟩,
      ⟨(some 141), none, (.ld false 1 (.t 140))⟩,
      ⟨(some 142), none, (.len (.t 141))⟩,
      ⟨(some 143), none, (.bin .lss (.t 139) (.t 142))⟩] [139, 140, 141, 142])
    (.cond (.t 143)
     .skip
     (.exit 2)))
    (.seq
    (.block 3
     (.seq
     (.dreg 13312 13488 [⟨(some 146), none, (.faddr 1 (.t 2))⟩,
       ⟨(some 147), none, (.ld false 1 (.t 146))⟩,
       ⟨(some 148), none, (.mv (.t 8))⟩,
       ⟨(some 149), none, (.iaddr 9 (.t 147) (.t 148))⟩,
       ⟨(some 150), none, (.ld true 9 (.t 149))⟩,
       ⟨(some 151), none, (.faddr 1 (.t 3))⟩,
       ⟨(some 152), none, (.ld false 1 (.t 151))⟩,
       ⟨(some 153), none, (.mv (.t 8))⟩,
       ⟨(some 154), none, (.iaddr 9 (.t 152) (.t 153))⟩,
       ⟨(some 155), none, (.ld true 9 (.t 154))⟩,
       ⟨(some 156), none, (.eqs true [(0, .i), (1, .i), (2, .s), (3, .i), (4, .i), (5, .i), (6, .i), (7, .i), (8, .i)] (.t 150) (.t 155))⟩] [146, 147, 148, 149, 150, 151, 152, 153, 154, 155] [[], [0], [], [1, 0, 2], [3, 2, 0, 1], [], [5], [], [6, 5, 7], [8, 7, 5, 6], [4, 1, 0, 2, 3, 9, 6, 5, 7, 8]] [13312, 13328, 13344, 13360, 13376, 13392, 13408, 13424, 13440, 13456, 13472])
     (.cond (.t 156)
      (.seq
      (.reg [⟨(some 4), none, (.mv (.c (.bool false)))⟩] [])
      .ret)
      .skip)))
    (.reg [⟨(some 144), none, (.mv (.t 8))⟩,
      ⟨(some 145), none, (.bin .add (.t 144) (.c (.int .i64 1)))⟩,
      ⟨(some 8), none, (.mv (.t 145))⟩] [144, 145]))))))
  (.seq
  (.seq
  (.reg [⟨(some 9), none, (.mv (.c (.int .i64 0)))⟩] [])
  (.block 4
   (.loop
    (.seq
    (.seq
    (.reg [⟨(some 157), none, (.mv (.t 9))⟩,
      ⟨(some 158), none, (.faddr 4 (.t 2))⟩,
      ⟨(some 159), none, (.ld false 1 (.t 158))⟩,
      ⟨(some 160), none, (.len (.t 159))⟩,
      ⟨(some 161), none, (.bin .lss (.t 157) (.t 160))⟩] [157, 158, 159, 160])
    (.cond (.t 161)
     .skip
     (.exit 4)))
    (.seq
    (.block 5
     (.seq
     (.dreg 18432 18624 [⟨(some 164), none, (.faddr 4 (.t 2))⟩,
       ⟨(some 165), none, (.ld false 1 (.t 164))⟩,
       ⟨(some 166), none, (.mv (.t 9))⟩,
       ⟨(some 167), none, (.iaddr 3 (.t 165) (.t 166))⟩,
       ⟨(some 168), none, (.ld true 3 (.t 167))⟩,
       ⟨(some 169), none, (.faddr 4 (.t 3))⟩,
       ⟨(some 170), none, (.ld false 1 (.t 169))⟩,
       ⟨(some 171), none, (.mv (.t 9))⟩,
       ⟨(some 172), none, (.iaddr 3 (.t 170) (.t 171))⟩,
       ⟨(some 173), none, (.ld true 3 (.t 172))⟩,
       ⟨(some 174), none, (.call 94 [(.t 168), (.t 173)])⟩,
       ⟨(some 175), none, (.un .not (.t 174))⟩] [164, 165, 166, 167, 168, 169, 170, 171, 172, 173, 174] [[], [0], [], [1, 0, 2], [3, 2, 0, 1], [], [5], [], [6, 5, 7], [8, 7, 5, 6], [4, 1, 0, 2, 3, 9, 6, 5, 7, 8], [10, 8, 7, 5, 6, 9, 3, 2, 0, 1, 4]] [18432, 18448, 18464, 18480, 18496, 18512, 18528, 18544, 18560, 18576, 18592, 18608])
     (.cond (.t 175)
      (.seq
      (.reg [⟨(some 4), none, (.mv (.c (.bool false)))⟩] [])
      .ret)
      .skip)))
    (.reg [⟨(some 162), none, (.mv (.t 9))⟩,
      ⟨(some 163), none, (.bin .add (.t 162) (.c (.int .i64 1)))⟩,
      ⟨(some 9), none, (.mv (.t 163))⟩] [162, 163]))))))
  (.seq
  (.reg [⟨(some 4), none, (.mv (.c (.bool true)))⟩] [])
  .ret))))))
theorem rcq18 : resC Go.Proofs.Tryz.prog Go.Proofs.Tryz.f18.ntmps ((Go.Proofs.Tryz.f18.body).getD .skip) = some (strip rc18) := by kernel_rfl
set_option maxRecDepth 20000 in
set_option maxHeartbeats 2000000 in
theorem ok18r (fl : List Fl) (fr : List Fr) (za zb : List Zn) (gr : List Gr) (ls : List Ls) (ck : List Int) (pt : List Pt) (h : SmallC ⟨fl, fr, za, gr, ls, ck, pt⟩) (hzb : SmallZ zb) (hz : sameR za zb = true)
    (ht : ∀ f ∈ fl, FnC Tryz.prog 93 [] [.agg f.tr.c, .agg f.tr.c] (.bool true) []) :
    FnC Tryz.prog 18 [] [.agg (Ca.mk fl fr za gr ls ck pt).c, .agg (Ca.mk fl fr zb gr ls ck pt).c] (.bool true) [] := by
  obtain ⟨h1, h2, h3, h4, h5, h6, h7, h8⟩ := h
  dsimp only at h1 h2 h3 h4 h5 h6 h7 h8
  refine fn_okX [] Tryz.func18 rfl rfl (resX_of rcq18 rfl) rfl ?_
  repeat ((conv => whnf); first | refine Cd.go ?_ | refine ⟨rfl, ?_⟩ | refine rq_dec ⟨.inl rfl, rfl⟩ ?_ | refine rq_dec rfl ?_ | refine ⟨Nat.le_of_ble_eq_true rfl, ?_⟩ | refine ⟨.inl rfl, ?_⟩ | refine ⟨fun _ => ⟨rfl, Nat.le_of_ble_eq_true rfl⟩, ?_⟩ | refine ⟨fun _ => Nat.le_of_ble_eq_true rfl, ?_⟩ | refine ⟨fun h => Bool.noConfusion h, ?_⟩ | refine .inl ⟨_, fun _ => ⟨purA rfl, (by first | exact ok89 za zb false false h3 hzb | exact ok90 gr false false h4 | exact ok91 ck ck false false (by omega) (by omega) | exact ok92 pt false false h8)⟩, .inl rfl, ?_⟩)
  conv => whnf
  rw [hz]
  refine cq_intro (fun c1 => ?_) (fun c1 => ?_)
  · simp at c1
  repeat ((conv => whnf); first | refine Cd.go ?_ | refine ⟨rfl, ?_⟩ | refine rq_dec ⟨.inl rfl, rfl⟩ ?_ | refine rq_dec rfl ?_ | refine ⟨Nat.le_of_ble_eq_true rfl, ?_⟩ | refine ⟨.inl rfl, ?_⟩ | refine ⟨fun _ => ⟨rfl, Nat.le_of_ble_eq_true rfl⟩, ?_⟩ | refine ⟨fun _ => Nat.le_of_ble_eq_true rfl, ?_⟩ | refine ⟨fun h => Bool.noConfusion h, ?_⟩)
  conv => whnf
  refine ⟨Nat, fun i => i ≤ fl.length, fun i => ⟨[(2, ⟨[], true, .ptr 0 0 0⟩), (3, ⟨[], true, .ptr 1 0 0⟩), (5, ⟨[], true, .int .i64 (i : Int)⟩)], [(0, .box [.lst 15 false (rowsF fl), .lst 9 false (rowsR fr), .lst 6 false (rowsZ za), .lst 3 false (rowsG gr), .lst 3 false (rowsL ls), .lst 1 false (rowsI ck), .lst 5 false (rowsT pt)]), (1, .box [.lst 15 false (rowsF fl), .lst 9 false (rowsR fr), .lst 6 false (rowsZ zb), .lst 3 false (rowsG gr), .lst 3 false (rowsL ls), .lst 1 false (rowsI ck), .lst 5 false (rowsT pt)])], 2⟩, fun i => fl.length - i, ⟨0, Nat.zero_le _, ?_⟩, fun i hI => ?_⟩
  · refine viewI [some ?k122_0, some ?k122_1] rfl rfl ?h3_122 ?h4_122 ?h5_122 ?h6_122 ?h7_122
    case' h7_122 => repeat' (first | exact trivial | rfl | exact .inl rfl | exact .inr rfl | exact id | exact (fun h => Bool.noConfusion h) | refine And.intro ?_ ?_)
    case' h4_122 => rfl
    case' h6_122 => rfl
    case' h3_122 => repeat' (first | exact trivial | rfl | exact .inl rfl | exact .inr rfl | exact id | exact (fun h => Bool.noConfusion h) | refine And.intro ?_ ?_)
    case' h5_122 => repeat' (first | exact trivial | rfl | exact .inl rfl | exact .inr rfl | exact id | exact (fun h => Bool.noConfusion h) | refine And.intro ?_ ?_)
  dsimp only at hI ⊢
  repeat ((conv => whnf); first | refine Cd.go ?_ | refine ⟨rfl, ?_⟩ | refine rq_dec ⟨.inl rfl, rfl⟩ ?_ | refine rq_dec rfl ?_ | refine ⟨Nat.le_of_ble_eq_true rfl, ?_⟩ | refine ⟨.inl rfl, ?_⟩ | refine ⟨fun _ => ⟨rfl, Nat.le_of_ble_eq_true rfl⟩, ?_⟩ | refine ⟨fun _ => Nat.le_of_ble_eq_true rfl, ?_⟩ | refine ⟨fun h => Bool.noConfusion h, ?_⟩)
  conv => whnf
  rw [rowsF_len]
  refine cq_intro (fun h2 => ?_) (fun h2 => ?_)
  · have h2 : i < fl.length := by simp at h2; omega
    have hmem := getD_mem f0 h2
    have hget := rowsF_getK fl i h2
    generalize fl.getD i f0 = f at hmem hget
    repeat ((conv => whnf); first | refine Cd.go ?_ | refine ⟨rfl, ?_⟩ | refine rq_dec ⟨.inl rfl, rfl⟩ ?_ | refine rq_dec rfl ?_ | refine ⟨Nat.le_of_ble_eq_true rfl, ?_⟩ | refine ⟨.inl rfl, ?_⟩ | refine ⟨fun _ => ⟨rfl, Nat.le_of_ble_eq_true rfl⟩, ?_⟩ | refine ⟨fun _ => Nat.le_of_ble_eq_true rfl, ?_⟩ | refine ⟨fun h => Bool.noConfusion h, ?_⟩)
    conv => whnf
    first | refine rq_dec (⟨rfl, by omega, by rw [rowsF_len]; omega⟩) ?_ | refine gq_dec (fun _ => ⟨rfl, by omega, by rw [rowsF_len]; omega⟩) ?_ | refine ⟨fun _ => ⟨rfl, by omega, by rw [rowsF_len]; omega⟩, ?_⟩
    rw [hget]
    repeat ((conv => whnf); first | refine Cd.go ?_ | refine ⟨rfl, ?_⟩ | refine rq_dec ⟨.inl rfl, rfl⟩ ?_ | refine rq_dec rfl ?_ | refine ⟨Nat.le_of_ble_eq_true rfl, ?_⟩ | refine ⟨.inl rfl, ?_⟩ | refine ⟨fun _ => ⟨rfl, Nat.le_of_ble_eq_true rfl⟩, ?_⟩ | refine ⟨fun _ => Nat.le_of_ble_eq_true rfl, ?_⟩ | refine ⟨fun h => Bool.noConfusion h, ?_⟩)
    conv => whnf
    first | refine rq_dec (⟨rfl, by omega, by rw [rowsF_len]; omega⟩) ?_ | refine gq_dec (fun _ => ⟨rfl, by omega, by rw [rowsF_len]; omega⟩) ?_ | refine ⟨fun _ => ⟨rfl, by omega, by rw [rowsF_len]; omega⟩, ?_⟩
    rw [hget]
    repeat ((conv => whnf); first | refine Cd.go ?_ | refine ⟨rfl, ?_⟩ | refine rq_dec ⟨.inl rfl, rfl⟩ ?_ | refine rq_dec rfl ?_ | refine ⟨Nat.le_of_ble_eq_true rfl, ?_⟩ | refine ⟨.inl rfl, ?_⟩ | refine ⟨fun _ => ⟨rfl, Nat.le_of_ble_eq_true rfl⟩, ?_⟩ | refine ⟨fun _ => Nat.le_of_ble_eq_true rfl, ?_⟩ | refine ⟨fun h => Bool.noConfusion h, ?_⟩ | refine .inl ⟨_, fun _ => ⟨purA rfl, (by first | exact ht f hmem)⟩, .inl rfl, ?_⟩)
    conv => whnf
    refine cq_intro (fun c2 => ?_) (fun c2 => ?_)
    · simp at c2
    repeat ((conv => whnf); first | refine Cd.go ?_ | refine ⟨rfl, ?_⟩ | refine rq_dec ⟨.inl rfl, rfl⟩ ?_ | refine rq_dec rfl ?_ | refine ⟨Nat.le_of_ble_eq_true rfl, ?_⟩ | refine ⟨.inl rfl, ?_⟩ | refine ⟨fun _ => ⟨rfl, Nat.le_of_ble_eq_true rfl⟩, ?_⟩ | refine ⟨fun _ => Nat.le_of_ble_eq_true rfl, ?_⟩ | refine ⟨fun h => Bool.noConfusion h, ?_⟩)
    conv => whnf
    rw [wrapS (by omega)]
    refine ⟨i + 1, by show i + 1 ≤ _; omega, ?_, by show fl.length - (i + 1) < fl.length - i; omega⟩
    refine viewI [some 0, some 1] rfl rfl ?_ rfl ?_ rfl ?_
    repeat' (first | exact trivial | rfl | exact .inl rfl | exact .inr rfl | exact id | exact (fun h => Bool.noConfusion h) | refine And.intro ?_ ?_)
  clear h2
  repeat ((conv => whnf); first | refine Cd.go ?_ | refine ⟨rfl, ?_⟩ | refine rq_dec ⟨.inl rfl, rfl⟩ ?_ | refine rq_dec rfl ?_ | refine ⟨Nat.le_of_ble_eq_true rfl, ?_⟩ | refine ⟨.inl rfl, ?_⟩ | refine ⟨fun _ => ⟨rfl, Nat.le_of_ble_eq_true rfl⟩, ?_⟩ | refine ⟨fun _ => Nat.le_of_ble_eq_true rfl, ?_⟩ | refine ⟨fun h => Bool.noConfusion h, ?_⟩)
  conv => whnf
  refine ⟨Nat, fun i => i ≤ fr.length, fun i => ⟨[(2, ⟨[], true, .ptr 0 0 0⟩), (3, ⟨[], true, .ptr 1 0 0⟩), (8, ⟨[], true, .int .i64 (i : Int)⟩)], [(0, .box [.lst 15 false (rowsF fl), .lst 9 false (rowsR fr), .lst 6 false (rowsZ za), .lst 3 false (rowsG gr), .lst 3 false (rowsL ls), .lst 1 false (rowsI ck), .lst 5 false (rowsT pt)]), (1, .box [.lst 15 false (rowsF fl), .lst 9 false (rowsR fr), .lst 6 false (rowsZ zb), .lst 3 false (rowsG gr), .lst 3 false (rowsL ls), .lst 1 false (rowsI ck), .lst 5 false (rowsT pt)])], 2⟩, fun i => fr.length - i, ⟨0, Nat.zero_le _, ?_⟩, fun i hI => ?_⟩
  · refine viewI [some 0, some 1] rfl rfl ?_ rfl ?_ rfl ?_
    repeat' (first | exact trivial | rfl | exact .inl rfl | exact .inr rfl | exact id | exact (fun h => Bool.noConfusion h) | refine And.intro ?_ ?_)
  dsimp only at hI ⊢
  repeat ((conv => whnf); first | refine Cd.go ?_ | refine ⟨rfl, ?_⟩ | refine rq_dec ⟨.inl rfl, rfl⟩ ?_ | refine rq_dec rfl ?_ | refine ⟨Nat.le_of_ble_eq_true rfl, ?_⟩ | refine ⟨.inl rfl, ?_⟩ | refine ⟨fun _ => ⟨rfl, Nat.le_of_ble_eq_true rfl⟩, ?_⟩ | refine ⟨fun _ => Nat.le_of_ble_eq_true rfl, ?_⟩ | refine ⟨fun h => Bool.noConfusion h, ?_⟩)
  conv => whnf
  rw [rowsR_len]
  refine cq_intro (fun h2 => ?_) (fun h2 => ?_)
  · have h2 : i < fr.length := by simp at h2; omega
    have hmem := getD_mem fre h2
    have hget := rowsR_getK fr i h2
    generalize fr.getD i fre = f at hmem hget
    repeat ((conv => whnf); first | refine Cd.go ?_ | refine ⟨rfl, ?_⟩ | refine rq_dec ⟨.inl rfl, rfl⟩ ?_ | refine rq_dec rfl ?_ | refine ⟨Nat.le_of_ble_eq_true rfl, ?_⟩ | refine ⟨.inl rfl, ?_⟩ | refine ⟨fun _ => ⟨rfl, Nat.le_of_ble_eq_true rfl⟩, ?_⟩ | refine ⟨fun _ => Nat.le_of_ble_eq_true rfl, ?_⟩ | refine ⟨fun h => Bool.noConfusion h, ?_⟩)
    conv => whnf
    first | refine rq_dec (⟨rfl, by omega, by rw [rowsR_len]; omega⟩) ?_ | refine gq_dec (fun _ => ⟨rfl, by omega, by rw [rowsR_len]; omega⟩) ?_ | refine ⟨fun _ => ⟨rfl, by omega, by rw [rowsR_len]; omega⟩, ?_⟩
    rw [hget]
    repeat ((conv => whnf); first | refine Cd.go ?_ | refine ⟨rfl, ?_⟩ | refine rq_dec ⟨.inl rfl, rfl⟩ ?_ | refine rq_dec rfl ?_ | refine ⟨Nat.le_of_ble_eq_true rfl, ?_⟩ | refine ⟨.inl rfl, ?_⟩ | refine ⟨fun _ => ⟨rfl, Nat.le_of_ble_eq_true rfl⟩, ?_⟩ | refine ⟨fun _ => Nat.le_of_ble_eq_true rfl, ?_⟩ | refine ⟨fun h => Bool.noConfusion h, ?_⟩)
    conv => whnf
    first | refine rq_dec (⟨rfl, by omega, by rw [rowsR_len]; omega⟩) ?_ | refine gq_dec (fun _ => ⟨rfl, by omega, by rw [rowsR_len]; omega⟩) ?_ | refine ⟨fun _ => ⟨rfl, by omega, by rw [rowsR_len]; omega⟩, ?_⟩
    rw [hget]
    repeat ((conv => whnf); first | refine Cd.go ?_ | refine ⟨rfl, ?_⟩ | refine rq_dec ⟨.inl rfl, rfl⟩ ?_ | refine rq_dec rfl ?_ | refine ⟨Nat.le_of_ble_eq_true rfl, ?_⟩ | refine ⟨.inl rfl, ?_⟩ | refine ⟨fun _ => ⟨rfl, Nat.le_of_ble_eq_true rfl⟩, ?_⟩ | refine ⟨fun _ => Nat.le_of_ble_eq_true rfl, ?_⟩ | refine ⟨fun h => Bool.noConfusion h, ?_⟩)
    conv => whnf
    refine cq_intro (fun c2 => ?_) (fun c2 => ?_)
    · simp [strEq_self] at c2
    repeat ((conv => whnf); first | refine Cd.go ?_ | refine ⟨rfl, ?_⟩ | refine rq_dec ⟨.inl rfl, rfl⟩ ?_ | refine rq_dec rfl ?_ | refine ⟨Nat.le_of_ble_eq_true rfl, ?_⟩ | refine ⟨.inl rfl, ?_⟩ | refine ⟨fun _ => ⟨rfl, Nat.le_of_ble_eq_true rfl⟩, ?_⟩ | refine ⟨fun _ => Nat.le_of_ble_eq_true rfl, ?_⟩ | refine ⟨fun h => Bool.noConfusion h, ?_⟩)
    conv => whnf
    rw [wrapS (by omega)]
    refine ⟨i + 1, by show i + 1 ≤ _; omega, ?_, by show fr.length - (i + 1) < fr.length - i; omega⟩
    refine viewI [some 0, some 1] rfl rfl ?_ rfl ?_ rfl ?_
    repeat' (first | exact trivial | rfl | exact .inl rfl | exact .inr rfl | exact id | exact (fun h => Bool.noConfusion h) | refine And.intro ?_ ?_)
  clear h2
  repeat ((conv => whnf); first | refine Cd.go ?_ | refine ⟨rfl, ?_⟩ | refine rq_dec ⟨.inl rfl, rfl⟩ ?_ | refine rq_dec rfl ?_ | refine ⟨Nat.le_of_ble_eq_true rfl, ?_⟩ | refine ⟨.inl rfl, ?_⟩ | refine ⟨fun _ => ⟨rfl, Nat.le_of_ble_eq_true rfl⟩, ?_⟩ | refine ⟨fun _ => Nat.le_of_ble_eq_true rfl, ?_⟩ | refine ⟨fun h => Bool.noConfusion h, ?_⟩)
  conv => whnf
  refine ⟨Nat, fun i => i ≤ ls.length, fun i => ⟨[(2, ⟨[], true, .ptr 0 0 0⟩), (3, ⟨[], true, .ptr 1 0 0⟩), (9, ⟨[], true, .int .i64 (i : Int)⟩)], [(0, .box [.lst 15 false (rowsF fl), .lst 9 false (rowsR fr), .lst 6 false (rowsZ za), .lst 3 false (rowsG gr), .lst 3 false (rowsL ls), .lst 1 false (rowsI ck), .lst 5 false (rowsT pt)]), (1, .box [.lst 15 false (rowsF fl), .lst 9 false (rowsR fr), .lst 6 false (rowsZ zb), .lst 3 false (rowsG gr), .lst 3 false (rowsL ls), .lst 1 false (rowsI ck), .lst 5 false (rowsT pt)])], 2⟩, fun i => ls.length - i, ⟨0, Nat.zero_le _, ?_⟩, fun i hI => ?_⟩
  · refine viewI [some 0, some 1] rfl rfl ?_ rfl ?_ rfl ?_
    repeat' (first | exact trivial | rfl | exact .inl rfl | exact .inr rfl | exact id | exact (fun h => Bool.noConfusion h) | refine And.intro ?_ ?_)
  dsimp only at hI ⊢
  repeat ((conv => whnf); first | refine Cd.go ?_ | refine ⟨rfl, ?_⟩ | refine rq_dec ⟨.inl rfl, rfl⟩ ?_ | refine rq_dec rfl ?_ | refine ⟨Nat.le_of_ble_eq_true rfl, ?_⟩ | refine ⟨.inl rfl, ?_⟩ | refine ⟨fun _ => ⟨rfl, Nat.le_of_ble_eq_true rfl⟩, ?_⟩ | refine ⟨fun _ => Nat.le_of_ble_eq_true rfl, ?_⟩ | refine ⟨fun h => Bool.noConfusion h, ?_⟩)
  conv => whnf
  rw [rowsL_len]
  refine cq_intro (fun h2 => ?_) (fun h2 => ?_)
  · have h2 : i < ls.length := by simp at h2; omega
    have hmem := getD_mem l0 h2
    have hget := rowsL_getK ls i h2
    generalize ls.getD i l0 = f at hmem hget
    repeat ((conv => whnf); first | refine Cd.go ?_ | refine ⟨rfl, ?_⟩ | refine rq_dec ⟨.inl rfl, rfl⟩ ?_ | refine rq_dec rfl ?_ | refine ⟨Nat.le_of_ble_eq_true rfl, ?_⟩ | refine ⟨.inl rfl, ?_⟩ | refine ⟨fun _ => ⟨rfl, Nat.le_of_ble_eq_true rfl⟩, ?_⟩ | refine ⟨fun _ => Nat.le_of_ble_eq_true rfl, ?_⟩ | refine ⟨fun h => Bool.noConfusion h, ?_⟩)
    conv => whnf
    first | refine rq_dec (⟨rfl, by omega, by rw [rowsL_len]; omega⟩) ?_ | refine gq_dec (fun _ => ⟨rfl, by omega, by rw [rowsL_len]; omega⟩) ?_ | refine ⟨fun _ => ⟨rfl, by omega, by rw [rowsL_len]; omega⟩, ?_⟩
    rw [hget]
    repeat ((conv => whnf); first | refine Cd.go ?_ | refine ⟨rfl, ?_⟩ | refine rq_dec ⟨.inl rfl, rfl⟩ ?_ | refine rq_dec rfl ?_ | refine ⟨Nat.le_of_ble_eq_true rfl, ?_⟩ | refine ⟨.inl rfl, ?_⟩ | refine ⟨fun _ => ⟨rfl, Nat.le_of_ble_eq_true rfl⟩, ?_⟩ | refine ⟨fun _ => Nat.le_of_ble_eq_true rfl, ?_⟩ | refine ⟨fun h => Bool.noConfusion h, ?_⟩)
    conv => whnf
    first | refine rq_dec (⟨rfl, by omega, by rw [rowsL_len]; omega⟩) ?_ | refine gq_dec (fun _ => ⟨rfl, by omega, by rw [rowsL_len]; omega⟩) ?_ | refine ⟨fun _ => ⟨rfl, by omega, by rw [rowsL_len]; omega⟩, ?_⟩
    rw [hget]
    repeat ((conv => whnf); first | refine Cd.go ?_ | refine ⟨rfl, ?_⟩ | refine rq_dec ⟨.inl rfl, rfl⟩ ?_ | refine rq_dec rfl ?_ | refine ⟨Nat.le_of_ble_eq_true rfl, ?_⟩ | refine ⟨.inl rfl, ?_⟩ | refine ⟨fun _ => ⟨rfl, Nat.le_of_ble_eq_true rfl⟩, ?_⟩ | refine ⟨fun _ => Nat.le_of_ble_eq_true rfl, ?_⟩ | refine ⟨fun h => Bool.noConfusion h, ?_⟩ | refine .inl ⟨_, fun _ => ⟨purA rfl, (by first | exact ok94 f f (h6 f hmem) (h6 f hmem))⟩, .inl rfl, ?_⟩)
    conv => whnf
    refine cq_intro (fun c2 => ?_) (fun c2 => ?_)
    · simp [sameL] at c2
    repeat ((conv => whnf); first | refine Cd.go ?_ | refine ⟨rfl, ?_⟩ | refine rq_dec ⟨.inl rfl, rfl⟩ ?_ | refine rq_dec rfl ?_ | refine ⟨Nat.le_of_ble_eq_true rfl, ?_⟩ | refine ⟨.inl rfl, ?_⟩ | refine ⟨fun _ => ⟨rfl, Nat.le_of_ble_eq_true rfl⟩, ?_⟩ | refine ⟨fun _ => Nat.le_of_ble_eq_true rfl, ?_⟩ | refine ⟨fun h => Bool.noConfusion h, ?_⟩)
    conv => whnf
    rw [wrapS (by omega)]
    refine ⟨i + 1, by show i + 1 ≤ _; omega, ?_, by show ls.length - (i + 1) < ls.length - i; omega⟩
    refine viewI [some 0, some 1] rfl rfl ?_ rfl ?_ rfl ?_
    repeat' (first | exact trivial | rfl | exact .inl rfl | exact .inr rfl | exact id | exact (fun h => Bool.noConfusion h) | refine And.intro ?_ ?_)
  clear h2
  repeat ((conv => whnf); first | refine Cd.go ?_ | refine ⟨rfl, ?_⟩ | refine rq_dec ⟨.inl rfl, rfl⟩ ?_ | refine rq_dec rfl ?_ | refine ⟨Nat.le_of_ble_eq_true rfl, ?_⟩ | refine ⟨.inl rfl, ?_⟩ | refine ⟨fun _ => ⟨rfl, Nat.le_of_ble_eq_true rfl⟩, ?_⟩ | refine ⟨fun _ => Nat.le_of_ble_eq_true rfl, ?_⟩ | refine ⟨fun h => Bool.noConfusion h, ?_⟩)
  conv => whnf
  repeat ((conv => whnf); first | refine Cd.go ?_ | refine ⟨rfl, ?_⟩ | refine rq_dec ⟨.inl rfl, rfl⟩ ?_ | refine rq_dec rfl ?_ | refine ⟨Nat.le_of_ble_eq_true rfl, ?_⟩ | refine ⟨.inl rfl, ?_⟩ | refine ⟨fun _ => ⟨rfl, Nat.le_of_ble_eq_true rfl⟩, ?_⟩ | refine ⟨fun _ => Nat.le_of_ble_eq_true rfl, ?_⟩ | refine ⟨fun h => Bool.noConfusion h, ?_⟩)
  conv => whnf
  refine ⟨[], trivial, rfl, trivial, rfl, ?_⟩
  try subst hk
  repeat' (first | exact trivial | rfl | exact .inl rfl | exact .inr rfl | exact id | exact (fun h => Bool.noConfusion h) | refine And.intro ?_ ?_)
end Go.Proofs.YtmhapcbjjpadnaaGreat

