/- Readahead: awake. -/
import Derived.Test.YteelckbeekgfiaaDoorR6
set_option linter.unusedSimpArgs false
set_option linter.unusedVariables false
namespace Go.Proofs.YteelckbeekgfiaaDoor
open Go Go.Sk Go.RowKit

/- pagecache/pagecachelaw07.awake -/
def rc20 : RC :=
  (.seq
  (.reg [⟨(some 0), none, (.mv (.c (.bool false)))⟩] [])
  (.seq
  (.reg [⟨(some 7), none, (.build [(.int .i64 0), (.int .i64 0), (.int .i64 0), (.int .i64 0), (.int .i64 0), (.int .i64 0)] [(0, (1, (.c (.int .i64 2)))), (1, (1, (.c (.int .i64 2)))), (2, (1, (.c (.int .i64 3)))), (4, (1, (.c (.int .i64 2))))])⟩,
    ⟨(some 1), none, (.alloc [(.int .i64 0), (.int .i64 0), (.int .i64 0), (.int .i64 0), (.int .i64 0), (.int .i64 0)])⟩,
    ⟨none, none, (.st 6 (.t 1) (.t 7))⟩] [7])
  (.seq
  (.reg [⟨(some 9), none, (.build [(.int .i64 0), (.int .i64 0), (.int .i64 0)] [])⟩,
    ⟨(some 10), none, (.ld true 6 (.t 1))⟩,
    ⟨(some 11), none, (.call 9 [(.t 9), (.t 10), (.c (.int .i64 2)), (.c (.int .i64 3)), (.c (.int .i64 8))])⟩,
    ⟨(some 8), none, (.mv (.t 11))⟩,
    ⟨(some 12), none, (.extr 0 (.t 8))⟩,
    ⟨(some 13), none, (.extr 1 (.t 8))⟩,
    ⟨(some 14), none, (.extr 2 (.t 8))⟩,
    ⟨(some 2), none, (.alloc [(.int .i64 0), (.int .i64 0), (.int .i64 0)])⟩,
    ⟨none, none, (.st 3 (.t 2) (.t 12))⟩,
    ⟨(some 3), none, (.mv (.t 13))⟩,
    ⟨(some 4), none, (.mv (.t 14))⟩] [9, 10, 11, 8, 12, 13, 14])
  (.seq
  (.reg [⟨(some 16), none, (.ld true 3 (.t 2))⟩,
    ⟨(some 17), none, (.call 11 [(.t 16)])⟩,
    ⟨(some 15), none, (.mv (.t 17))⟩,
    ⟨(some 18), none, (.extr 0 (.t 15))⟩,
    ⟨(some 19), none, (.extr 1 (.t 15))⟩,
    ⟨(some 5), none, (.mv (.t 18))⟩,
    ⟨(some 6), none, (.mv (.t 19))⟩] [16, 17, 15, 18, 19])
  (.seq
  (.reg [⟨(some 20), none, (.mv (.t 4))⟩,
    ⟨(some 21), none, (.bin .eql (.t 20) (.c (.int .i64 0)))⟩,
    ⟨(some 22), none, (.mv (.t 21))⟩,
    ⟨(some 23), (some (22, true)), (.ld true 3 (.t 2))⟩,
    ⟨(some 24), (some (22, true)), (.build [(.int .i64 0), (.int .i64 0), (.int .i64 0)] [(0, (1, (.c (.int .i64 3)))), (1, (1, (.c (.int .i64 2)))), (2, (1, (.c (.int .i64 2))))])⟩,
    ⟨(some 25), (some (22, true)), (.eqs false [(0, false), (1, false), (2, false)] (.t 23) (.t 24))⟩,
    ⟨(some 26), none, (.pick (.t 22) (.t 25) (.c (.bool false)))⟩,
    ⟨(some 27), none, (.mv (.t 26))⟩,
    ⟨(some 28), (some (27, true)), (.mv (.t 3))⟩,
    ⟨(some 29), (some (27, true)), (.len (.t 28))⟩,
    ⟨(some 30), (some (27, true)), (.bin .eql (.t 29) (.c (.int .i64 2)))⟩,
    ⟨(some 31), none, (.pick (.t 27) (.t 30) (.c (.bool false)))⟩,
    ⟨(some 32), none, (.mv (.t 31))⟩,
    ⟨(some 33), (some (32, true)), (.mv (.t 3))⟩,
    ⟨(some 34), (some (32, true)), (.iaddr 1 (.t 33) (.c (.int .i64 0)))⟩,
    ⟨(some 35), (some (32, true)), (.ld false 1 (.t 34))⟩,
    ⟨(some 36), (some (32, true)), (.bin .eql (.t 35) (.c (.int .i64 3)))⟩,
    ⟨(some 37), none, (.pick (.t 32) (.t 36) (.c (.bool false)))⟩,
    ⟨(some 38), none, (.mv (.t 37))⟩,
    ⟨(some 39), (some (38, true)), (.mv (.t 6))⟩,
    ⟨(some 40), none, (.pick (.t 38) (.t 39) (.c (.bool false)))⟩,
    ⟨(some 41), none, (.mv (.t 40))⟩,
    ⟨(some 42), (some (41, true)), (.mv (.t 5))⟩,
    ⟨(some 43), (some (41, true)), (.bin .eql (.t 42) (.c (.int .i64 3)))⟩,
    ⟨(some 44), none, (.pick (.t 41) (.t 43) (.c (.bool false)))⟩,
    ⟨(some 45), none, (.mv (.t 44))⟩,
    ⟨(some 46), (some (45, true)), (.call 16 [(.c (.int .i64 3))])⟩,
    ⟨(some 47), (some (45, true)), (.bin .eql (.t 46) (.c (.int .i64 8)))⟩,
    ⟨(some 48), none, (.pick (.t 45) (.t 47) (.c (.bool false)))⟩,
    ⟨(some 49), none, (.mv (.t 48))⟩,
    ⟨(some 50), (some (49, true)), (.call 18 [(.c (.int .i64 2))])⟩,
    ⟨(some 51), (some (49, true)), (.bin .eql (.t 50) (.c (.int .i64 4)))⟩,
    ⟨(some 52), none, (.pick (.t 49) (.t 51) (.c (.bool false)))⟩,
    ⟨(some 53), none, (.mv (.t 52))⟩,
    ⟨(some 54), (some (53, true)), (.ld true 3 (.t 2))⟩,
    ⟨(some 55), (some (53, true)), (.call 14 [(.t 54)])⟩,
    ⟨(some 56), none, (.pick (.t 53) (.t 55) (.c (.bool false)))⟩,
    ⟨(some 57), none, (.mv (.t 56))⟩,
    ⟨(some 58), (some (57, true)), (.build [(.int .i64 0), (.int .i64 0), (.int .i64 0)] [(1, (1, (.c (.int .i64 9))))])⟩,
    ⟨(some 59), (some (57, true)), (.call 14 [(.t 58)])⟩,
    ⟨(some 60), (some (57, true)), (.un .not (.t 59))⟩,
    ⟨(some 61), none, (.pick (.t 57) (.t 60) (.c (.bool false)))⟩,
    ⟨(some 0), none, (.mv (.t 61))⟩] [20, 21, 22, 23, 24, 25, 26, 27, 28, 29, 30, 31, 32, 33, 34, 35, 36, 37, 38, 39, 40, 41, 42, 43, 44, 45, 46, 47, 48, 49, 50, 51, 52, 53, 54, 55, 56, 57, 58, 59, 60, 61])
  .ret)))))
theorem rcq20 : resC Go.Proofs.Tryd.prog Go.Proofs.Tryd.f20.ntmps ((Go.Proofs.Tryd.f20.body).getD .skip) = some (strip rc20) := by kernel_rfl
def rv20 : List RV := [(.tmp 0)]
theorem rvq20 : Go.Proofs.Tryd.f20.results.toList.mapM (resRV Go.Proofs.Tryd.prog) = some rv20 := by kernel_rfl

instance : DecidableEq Win := fun a b => decidable_of_iff (a.start = b.start ∧ a.size = b.size ∧ a.async = b.async) (by
  obtain ⟨a1, a2, a3⟩ := a
  obtain ⟨b1, b2, b3⟩ := b
  simp)
def awS : Stm := ⟨2, 2, 3, 0, 2, 0⟩
theorem awPl : planF zeroWin awS 2 3 8 = (⟨3, 2, 2⟩, [3, 4], 0) := by decide
theorem aw9 : FnC Tryd.prog 9 [] [.agg [.int .i64 0, .int .i64 0, .int .i64 0], .agg awS.c, .int .i64 2, .int .i64 3, .int .i64 8] (.tup [.agg (Win.mk 3 2 2).c, .lst 1 false [[.int .i64 3], [.int .i64 4]], .int .i64 0]) [] := by
  have := okD9 zeroWin awS 2 3 8
  rw [awPl] at this
  exact this
theorem aw11 : FnC Tryd.prog 11 [] [.agg (Win.mk 3 2 2).c] (.tup [.int .i64 3, .bool true]) [] := by
  have := okD11 ⟨3, 2, 2⟩
  rw [show markerF ⟨3, 2, 2⟩ = (3, true) by decide] at this
  exact this
theorem aw16 : FnC Tryd.prog 16 [] [.int .i64 3] (.int .i64 8) [] := okD16 3
theorem aw18 : FnC Tryd.prog 18 [] [.int .i64 2] (.int .i64 4) [] := okD18 2
theorem aw14a : FnC Tryd.prog 14 [] [.agg (Win.mk 3 2 2).c] (.bool true) [] := by
  have := okD14 ⟨3, 2, 2⟩
  rw [show checkW ⟨3, 2, 2⟩ = true by decide] at this
  exact this
theorem aw14b : FnC Tryd.prog 14 [] [.agg (Win.mk 0 9 0).c] (.bool false) [] := by
  have := okD14 ⟨0, 9, 0⟩
  rw [show checkW ⟨0, 9, 0⟩ = false by decide] at this
  exact this
set_option maxRecDepth 20000 in
theorem okD20 : FnC Tryd.prog 20 [] [] (.bool true) [] := by
  refine fn_okC (ob0 := []) (rc := rc20) (rvs := rv20) Tryd.func20 rfl rcq20 rvq20 (show 0 ≤ _ by decide) ?_
  repeat ((conv => whnf); first | refine Cd.seq ?_ | refine Cd.cut ?_ | refine Cd.reg ?_ | refine Cd.block ?_ | refine Cd.cond ?_ | refine Cd.dreg ?_ | refine Cd.skip ?_ | refine Cd.ret ?_ | refine Cd.exit ?_ | refine Cd.loop ?_ | refine ⟨rfl, ?_⟩ | refine ⟨Nat.le_of_ble_eq_true rfl, ?_⟩ | refine ⟨.inl rfl, ?_⟩ | refine ⟨fun h => Bool.noConfusion h, ?_⟩ | refine .inl ⟨_, fun _ => ⟨purA rfl, (by first | exact aw9 | exact aw11 | exact aw16 | exact aw18 | exact aw14a | exact aw14b)⟩, .inl rfl, ?_⟩)
  conv => whnf
  refine ⟨fun _ => ⟨rfl, by decide, by decide⟩, ?_⟩
  repeat ((conv => whnf); first | refine Cd.seq ?_ | refine Cd.cut ?_ | refine Cd.reg ?_ | refine Cd.block ?_ | refine Cd.cond ?_ | refine Cd.dreg ?_ | refine Cd.skip ?_ | refine Cd.ret ?_ | refine Cd.exit ?_ | refine Cd.loop ?_ | refine ⟨rfl, ?_⟩ | refine ⟨Nat.le_of_ble_eq_true rfl, ?_⟩ | refine ⟨.inl rfl, ?_⟩ | refine ⟨fun h => Bool.noConfusion h, ?_⟩ | refine .inl ⟨_, fun _ => ⟨purA rfl, (by first | exact aw9 | exact aw11 | exact aw16 | exact aw18 | exact aw14a | exact aw14b)⟩, .inl rfl, ?_⟩)
  conv => whnf
  refine ⟨[], ?_, rfl, trivial, rfl, ?_⟩
  · exact trivial
  try subst hk
  repeat' (first | exact trivial | rfl | exact .inl rfl | exact .inr rfl | exact id | exact (fun h => Bool.noConfusion h) | refine And.intro ?_ ?_)
end Go.Proofs.YteelckbeekgfiaaDoor
