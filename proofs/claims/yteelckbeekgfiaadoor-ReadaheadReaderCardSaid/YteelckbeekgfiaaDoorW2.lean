/- Stream: small functions. -/
import Derived.Test.YteelckbeekgfiaaDoorBase
import Derived.KernelRfl
set_option linter.unusedSimpArgs false
set_option linter.unusedVariables false
namespace Go.Proofs.YteelckbeekgfiaaDoor
open Go Go.Sk Go.RowKit

/- pagecache/stream.valid -/
def rc35 : RC :=
  (.seq
  (.reg [⟨(some 4), none, (.mv (.c (.bool false)))⟩] [])
  (.seq
  (.reg [⟨(some 5), none, (.mv (.t 0))⟩,
    ⟨(some 6), none, (.bin .geq (.t 5) (.c (.int .i64 0)))⟩,
    ⟨(some 7), none, (.mv (.t 6))⟩,
    ⟨(some 8), (some (7, true)), (.mv (.t 0))⟩,
    ⟨(some 9), (some (7, true)), (.mv (.t 1))⟩,
    ⟨(some 10), (some (7, true)), (.bin .lss (.t 8) (.t 9))⟩,
    ⟨(some 11), none, (.pick (.t 7) (.t 10) (.c (.bool false)))⟩,
    ⟨(some 12), none, (.mv (.t 11))⟩,
    ⟨(some 13), (some (12, true)), (.mv (.t 1))⟩,
    ⟨(some 14), (some (12, true)), (.bin .leq (.t 13) (.c (.int .i64 256)))⟩,
    ⟨(some 15), none, (.pick (.t 12) (.t 14) (.c (.bool false)))⟩,
    ⟨(some 4), none, (.mv (.t 15))⟩] [5, 6, 7, 8, 9, 10, 11, 12, 13, 14, 15])
  .ret))
theorem rcq35 : resC Go.Proofs.Tryd.prog Go.Proofs.Tryd.f35.ntmps ((Go.Proofs.Tryd.f35.body).getD .skip) = some (strip rc35) := by kernel_rfl
def rv35 : List RV := [(.tmp 4)]
theorem rvq35 : Go.Proofs.Tryd.f35.results.toList.mapM (resRV Go.Proofs.Tryd.prog) = some rv35 := by kernel_rfl


/- pagecache/stream.stride -/
def rc44 : RC :=
  (.seq
  (.reg [⟨(some 2), none, (.mv (.c (.bool false)))⟩] [])
  (.seq
  (.reg [⟨(some 3), none, (.mv (.t 0))⟩,
    ⟨(some 4), none, (.bin .geq (.t 3) (.c (.int .i64 (-8))))⟩,
    ⟨(some 5), none, (.mv (.t 4))⟩,
    ⟨(some 6), (some (5, true)), (.mv (.t 0))⟩,
    ⟨(some 7), (some (5, true)), (.bin .leq (.t 6) (.c (.int .i64 (-2))))⟩,
    ⟨(some 8), none, (.pick (.t 5) (.t 7) (.c (.bool false)))⟩,
    ⟨(some 9), none, (.mv (.t 8))⟩,
    ⟨(some 10), (some (9, false)), (.mv (.t 0))⟩,
    ⟨(some 11), (some (9, false)), (.bin .geq (.t 10) (.c (.int .i64 2)))⟩,
    ⟨(some 12), (some (9, false)), (.mv (.t 11))⟩,
    ⟨(some 13), (some (12, true)), (.mv (.t 0))⟩,
    ⟨(some 14), (some (12, true)), (.bin .leq (.t 13) (.c (.int .i64 8)))⟩,
    ⟨(some 15), (some (9, false)), (.pick (.t 12) (.t 14) (.c (.bool false)))⟩,
    ⟨(some 16), none, (.pick (.t 9) (.c (.bool true)) (.t 15))⟩,
    ⟨(some 2), none, (.mv (.t 16))⟩] [3, 4, 5, 6, 7, 8, 9, 10, 11, 12, 13, 14, 15, 16])
  .ret))
theorem rcq44 : resC Go.Proofs.Tryd.prog Go.Proofs.Tryd.f44.ntmps ((Go.Proofs.Tryd.f44.body).getD .skip) = some (strip rc44) := by kernel_rfl
def rv44 : List RV := [(.tmp 2)]
theorem rvq44 : Go.Proofs.Tryd.f44.results.toList.mapM (resRV Go.Proofs.Tryd.prog) = some rv44 := by kernel_rfl


/- pagecache/stream.size -/
def rc45 : RC :=
  (.seq
  (.reg [⟨(some 2), none, (.mv (.c (.int .i64 0)))⟩] [])
  (.seq
  (.reg [⟨(some 3), none, (.mv (.t 0))⟩,
    ⟨(some 4), none, (.mv (.t 0))⟩,
    ⟨(some 5), none, (.un .neg (.t 4))⟩,
    ⟨(some 6), none, (.mx (.t 3) (.t 5))⟩,
    ⟨(some 2), none, (.mv (.t 6))⟩] [3, 4, 5, 6])
  .ret))
theorem rcq45 : resC Go.Proofs.Tryd.prog Go.Proofs.Tryd.f45.ntmps ((Go.Proofs.Tryd.f45.body).getD .skip) = some (strip rc45) := by kernel_rfl
def rv45 : List RV := [(.tmp 2)]
theorem rvq45 : Go.Proofs.Tryd.f45.results.toList.mapM (resRV Go.Proofs.Tryd.prog) = some rv45 := by kernel_rfl


/- pagecache/pagecacheref06.Access -/
def rc30 : RC :=
  (.seq
  (.reg [⟨(some 4), none, (.mv (.c (.bool false)))⟩] [])
  (.seq
  (.reg [⟨(some 5), none, (.mv (.t 0))⟩,
    ⟨(some 6), none, (.bin .geq (.t 5) (.c (.int .i64 0)))⟩,
    ⟨(some 7), none, (.mv (.t 6))⟩,
    ⟨(some 8), (some (7, true)), (.mv (.t 0))⟩,
    ⟨(some 9), (some (7, true)), (.mv (.t 1))⟩,
    ⟨(some 10), (some (7, true)), (.bin .lss (.t 8) (.t 9))⟩,
    ⟨(some 11), none, (.pick (.t 7) (.t 10) (.c (.bool false)))⟩,
    ⟨(some 12), none, (.mv (.t 11))⟩,
    ⟨(some 13), (some (12, true)), (.mv (.t 1))⟩,
    ⟨(some 14), (some (12, true)), (.bin .leq (.t 13) (.c (.int .i64 256)))⟩,
    ⟨(some 15), none, (.pick (.t 12) (.t 14) (.c (.bool false)))⟩,
    ⟨(some 4), none, (.mv (.t 15))⟩] [5, 6, 7, 8, 9, 10, 11, 12, 13, 14, 15])
  .ret))
theorem rcq30 : resC Go.Proofs.Tryd.prog Go.Proofs.Tryd.f30.ntmps ((Go.Proofs.Tryd.f30.body).getD .skip) = some (strip rc30) := by kernel_rfl
def rv30 : List RV := [(.tmp 4)]
theorem rvq30 : Go.Proofs.Tryd.f30.results.toList.mapM (resRV Go.Proofs.Tryd.prog) = some rv30 := by kernel_rfl


/- pagecache/pagecacheref06.step -/
def rc43 : RC :=
  (.seq
  (.reg [⟨(some 2), none, (.mv (.c (.bool false)))⟩] [])
  (.seq
  (.reg [⟨(some 3), none, (.mv (.t 0))⟩,
    ⟨(some 4), none, (.bin .geq (.t 3) (.c (.int .i64 2)))⟩,
    ⟨(some 5), none, (.mv (.t 4))⟩,
    ⟨(some 6), (some (5, true)), (.mv (.t 0))⟩,
    ⟨(some 7), (some (5, true)), (.bin .leq (.t 6) (.c (.int .i64 8)))⟩,
    ⟨(some 8), none, (.pick (.t 5) (.t 7) (.c (.bool false)))⟩,
    ⟨(some 9), none, (.mv (.t 8))⟩,
    ⟨(some 10), (some (9, false)), (.mv (.t 0))⟩,
    ⟨(some 11), (some (9, false)), (.bin .leq (.t 10) (.c (.int .i64 (-2))))⟩,
    ⟨(some 12), (some (9, false)), (.mv (.t 11))⟩,
    ⟨(some 13), (some (12, true)), (.mv (.t 0))⟩,
    ⟨(some 14), (some (12, true)), (.bin .geq (.t 13) (.c (.int .i64 (-8))))⟩,
    ⟨(some 15), (some (9, false)), (.pick (.t 12) (.t 14) (.c (.bool false)))⟩,
    ⟨(some 16), none, (.pick (.t 9) (.c (.bool true)) (.t 15))⟩,
    ⟨(some 2), none, (.mv (.t 16))⟩] [3, 4, 5, 6, 7, 8, 9, 10, 11, 12, 13, 14, 15, 16])
  .ret))
theorem rcq43 : resC Go.Proofs.Tryd.prog Go.Proofs.Tryd.f43.ntmps ((Go.Proofs.Tryd.f43.body).getD .skip) = some (strip rc43) := by kernel_rfl
def rv43 : List RV := [(.tmp 2)]
theorem rvq43 : Go.Proofs.Tryd.f43.results.toList.mapM (resRV Go.Proofs.Tryd.prog) = some rv43 := by kernel_rfl


def validF (a b : Int) : Bool := decide (0 ≤ a) && (decide (a < b) && decide (b ≤ 256))
theorem ok35 (a b : Int) : FnC Tryd.prog 35 [] [.int .i64 a, .int .i64 b] (.bool (validF a b)) [] := by
  refine fn_okF (ob0 := []) (rc := rc35) (rvs := rv35) Tryd.func35 rfl rcq35 rvq35 (show 2 ≤ _ by decide) ?_
  repeat ((conv => whnf); first | refine ⟨rfl, ?_⟩ | refine ⟨Nat.le_of_ble_eq_true rfl, ?_⟩)
  conv => whnf
  refine ⟨[], trivial, rfl, trivial, rfl, ?_⟩
  conv => whnf
  simp only [validF]
  cases decide (0 ≤ a) <;> cases decide (a < b) <;> rfl
theorem ok30 (a b : Int) : FnC Tryd.prog 30 [] [.int .i64 a, .int .i64 b] (.bool (validF a b)) [] := by
  refine fn_okF (ob0 := []) (rc := rc30) (rvs := rv30) Tryd.func30 rfl rcq30 rvq30 (show 2 ≤ _ by decide) ?_
  repeat ((conv => whnf); first | refine ⟨rfl, ?_⟩ | refine ⟨Nat.le_of_ble_eq_true rfl, ?_⟩)
  conv => whnf
  refine ⟨[], trivial, rfl, trivial, rfl, ?_⟩
  conv => whnf
  simp only [validF]
  cases decide (0 ≤ a) <;> cases decide (a < b) <;> rfl
def sizeF (a : Int) : Int := max a (IntKind.i64.wrap (0 - a))
theorem ok45 (a : Int) : FnC Tryd.prog 45 [] [.int .i64 a] (.int .i64 (sizeF a)) [] := by
  refine fn_okF (ob0 := []) (rc := rc45) (rvs := rv45) Tryd.func45 rfl rcq45 rvq45 (show 1 ≤ _ by decide) ?_
  repeat ((conv => whnf); first | refine ⟨rfl, ?_⟩ | refine ⟨Nat.le_of_ble_eq_true rfl, ?_⟩)
  conv => whnf
  refine ⟨[], trivial, rfl, trivial, rfl, ?_⟩
  conv => whnf
  exact ⟨rfl, rfl⟩
def strideF (a : Int) : Bool := (decide (-8 ≤ a) && decide (a ≤ -2)) || (decide (2 ≤ a) && decide (a ≤ 8))
theorem ok44 (a : Int) : FnC Tryd.prog 44 [] [.int .i64 a] (.bool (strideF a)) [] := by
  refine fn_okF (ob0 := []) (rc := rc44) (rvs := rv44) Tryd.func44 rfl rcq44 rvq44 (show 1 ≤ _ by decide) ?_
  repeat ((conv => whnf); first | refine ⟨rfl, ?_⟩ | refine ⟨Nat.le_of_ble_eq_true rfl, ?_⟩)
  conv => whnf
  refine ⟨[], trivial, rfl, trivial, rfl, ?_⟩
  conv => whnf
  simp only [strideF]
  cases decide (-8 ≤ a) <;> cases decide (a ≤ -2) <;> cases decide (2 ≤ a) <;> cases decide (a ≤ 8) <;> rfl
theorem ok43 (a : Int) : FnC Tryd.prog 43 [] [.int .i64 a] (.bool (strideF a)) [] := by
  refine fn_okF (ob0 := []) (rc := rc43) (rvs := rv43) Tryd.func43 rfl rcq43 rvq43 (show 1 ≤ _ by decide) ?_
  repeat ((conv => whnf); first | refine ⟨rfl, ?_⟩ | refine ⟨Nat.le_of_ble_eq_true rfl, ?_⟩)
  conv => whnf
  refine ⟨[], trivial, rfl, trivial, rfl, ?_⟩
  conv => whnf
  simp only [strideF]
  cases decide (-8 ≤ a) <;> cases decide (a ≤ -2) <;> cases decide (2 ≤ a) <;> cases decide (a ≤ 8) <;> rfl
/- pagecache/stream.right -/
def rc34 : RC :=
  (.seq
  (.reg [⟨(some 1), none, (.box (.t 0))⟩,
    ⟨(some 2), none, (.mv (.c (.bool false)))⟩] [])
  (.seq
  (.seq
  (.reg [⟨(some 3), none, (.faddr 1 (.t 1))⟩,
    ⟨(some 4), none, (.ld false 1 (.t 3))⟩,
    ⟨(some 5), none, (.faddr 2 (.t 1))⟩,
    ⟨(some 6), none, (.ld false 1 (.t 5))⟩,
    ⟨(some 7), none, (.call 35 [(.t 4), (.t 6)])⟩,
    ⟨(some 8), none, (.un .not (.t 7))⟩,
    ⟨(some 9), none, (.mv (.t 8))⟩,
    ⟨(some 10), (some (9, false)), (.faddr 0 (.t 1))⟩,
    ⟨(some 11), (some (9, false)), (.ld false 1 (.t 10))⟩,
    ⟨(some 12), (some (9, false)), (.bin .lss (.t 11) (.c (.int .i64 1)))⟩,
    ⟨(some 13), none, (.pick (.t 9) (.c (.bool true)) (.t 12))⟩,
    ⟨(some 14), none, (.mv (.t 13))⟩,
    ⟨(some 15), (some (14, false)), (.faddr 0 (.t 1))⟩,
    ⟨(some 16), (some (14, false)), (.ld false 1 (.t 15))⟩,
    ⟨(some 17), (some (14, false)), (.bin .gtr (.t 16) (.c (.int .i64 4)))⟩,
    ⟨(some 18), none, (.pick (.t 14) (.c (.bool true)) (.t 17))⟩,
    ⟨(some 19), none, (.mv (.t 18))⟩,
    ⟨(some 20), (some (19, false)), (.faddr 5 (.t 1))⟩,
    ⟨(some 21), (some (19, false)), (.ld false 1 (.t 20))⟩,
    ⟨(some 22), (some (19, false)), (.bin .lss (.t 21) (.c (.int .i64 0)))⟩,
    ⟨(some 23), none, (.pick (.t 19) (.c (.bool true)) (.t 22))⟩,
    ⟨(some 24), none, (.mv (.t 23))⟩,
    ⟨(some 25), (some (24, false)), (.faddr 5 (.t 1))⟩,
    ⟨(some 26), (some (24, false)), (.ld false 1 (.t 25))⟩,
    ⟨(some 27), (some (24, false)), (.bin .gtr (.t 26) (.c (.int .i64 1000000)))⟩,
    ⟨(some 28), none, (.pick (.t 24) (.c (.bool true)) (.t 27))⟩] [3, 4, 5, 6, 7, 8, 9, 10, 11, 12, 13, 14, 15, 16, 17, 18, 19, 20, 21, 22, 23, 24, 25, 26, 27])
  (.cond (.t 28)
   (.seq
   (.reg [⟨(some 2), none, (.mv (.c (.bool false)))⟩] [])
   .ret)
   .skip))
  (.seq
  (.seq
  (.reg [⟨(some 29), none, (.faddr 4 (.t 1))⟩,
    ⟨(some 30), none, (.ld false 1 (.t 29))⟩,
    ⟨(some 31), none, (.bin .lss (.t 30) (.c (.int .i64 0)))⟩,
    ⟨(some 32), none, (.mv (.t 31))⟩,
    ⟨(some 33), (some (32, false)), (.faddr 4 (.t 1))⟩,
    ⟨(some 34), (some (32, false)), (.ld false 1 (.t 33))⟩,
    ⟨(some 35), (some (32, false)), (.bin .gtr (.t 34) (.c (.int .i64 1000000)))⟩,
    ⟨(some 36), none, (.pick (.t 32) (.c (.bool true)) (.t 35))⟩,
    ⟨(some 37), none, (.mv (.t 36))⟩,
    ⟨(some 38), (some (37, false)), (.faddr 4 (.t 1))⟩,
    ⟨(some 39), (some (37, false)), (.ld false 1 (.t 38))⟩,
    ⟨(some 40), (some (37, false)), (.bin .eql (.t 39) (.c (.int .i64 0)))⟩,
    ⟨(some 41), (some (37, false)), (.faddr 0 (.t 1))⟩,
    ⟨(some 42), (some (37, false)), (.ld false 1 (.t 41))⟩,
    ⟨(some 43), (some (37, false)), (.bin .eql (.t 42) (.c (.int .i64 1)))⟩,
    ⟨(some 44), (some (37, false)), (.eqb true (.t 40) (.t 43))⟩,
    ⟨(some 45), none, (.pick (.t 37) (.c (.bool true)) (.t 44))⟩] [29, 30, 31, 32, 33, 34, 35, 36, 37, 38, 39, 40, 41, 42, 43, 44])
  (.cond (.t 45)
   (.seq
   (.reg [⟨(some 2), none, (.mv (.c (.bool false)))⟩] [])
   .ret)
   .skip))
  (.seq
  (.seq
  (.reg [⟨(some 46), none, (.faddr 0 (.t 1))⟩,
    ⟨(some 47), none, (.ld false 1 (.t 46))⟩,
    ⟨(some 48), none, (.bin .neq (.t 47) (.c (.int .i64 4)))⟩] [46, 47])
  (.cond (.t 48)
   (.seq
   (.reg [⟨(some 49), none, (.faddr 3 (.t 1))⟩,
     ⟨(some 50), none, (.ld false 1 (.t 49))⟩,
     ⟨(some 51), none, (.bin .eql (.t 50) (.c (.int .i64 0)))⟩,
     ⟨(some 2), none, (.mv (.t 51))⟩] [49, 50, 51])
   .ret)
   .skip))
  (.seq
  (.dreg 8192 8432 [⟨(some 52), none, (.faddr 3 (.t 1))⟩,
    ⟨(some 53), none, (.ld false 1 (.t 52))⟩,
    ⟨(some 54), none, (.call 44 [(.t 53)])⟩,
    ⟨(some 55), none, (.mv (.t 54))⟩,
    ⟨(some 56), (some (55, true)), (.faddr 2 (.t 1))⟩,
    ⟨(some 57), (some (55, true)), (.ld false 1 (.t 56))⟩,
    ⟨(some 58), (some (55, true)), (.faddr 1 (.t 1))⟩,
    ⟨(some 59), (some (55, true)), (.ld false 1 (.t 58))⟩,
    ⟨(some 60), (some (55, true)), (.bin .sub (.t 57) (.t 59))⟩,
    ⟨(some 61), (some (55, true)), (.faddr 3 (.t 1))⟩,
    ⟨(some 62), (some (55, true)), (.ld false 1 (.t 61))⟩,
    ⟨(some 63), (some (55, true)), (.call 45 [(.t 62)])⟩,
    ⟨(some 64), (some (55, true)), (.bin .leq (.t 60) (.t 63))⟩,
    ⟨(some 65), none, (.pick (.t 55) (.t 64) (.c (.bool false)))⟩,
    ⟨(some 2), none, (.mv (.t 65))⟩] [52, 53, 54, 55, 56, 57, 58, 59, 60, 61, 62, 63, 64, 65] [[], [0], [1, 0], [2, 0, 1], [3, 1, 0, 2], [4, 3, 1, 0, 2], [3, 1, 0, 2], [6, 3, 1, 0, 2], [5, 4, 7, 6, 3, 1, 0, 2], [3, 1, 0, 2], [9, 3, 1, 0, 2], [10, 9, 3, 1, 0, 2], [8, 6, 7, 4, 5, 11, 9, 10, 3, 1, 0, 2], [12, 2, 0, 1, 3, 10, 9, 11, 5, 4, 7, 6, 8], [13, 8, 6, 7, 4, 5, 11, 9, 10, 3, 1, 0, 2, 12]] [8192, 8208, 8224, 8240, 8256, 8272, 8288, 8304, 8320, 8336, 8352, 8368, 8384, 8400, 8416])
  .ret)))))
theorem rcq34 : resC Go.Proofs.Tryd.prog Go.Proofs.Tryd.f34.ntmps ((Go.Proofs.Tryd.f34.body).getD .skip) = some (strip rc34) := by kernel_rfl
def rv34 : List RV := [(.tmp 2)]
theorem rvq34 : Go.Proofs.Tryd.f34.results.toList.mapM (resRV Go.Proofs.Tryd.prog) = some rv34 := by kernel_rfl


/- pagecache/pagecacheref06.Right -/
def rc29 : RC :=
  (.seq
  (.reg [⟨(some 1), none, (.box (.t 0))⟩,
    ⟨(some 2), none, (.mv (.c (.bool false)))⟩] [])
  (.seq
  (.seq
  (.reg [⟨(some 3), none, (.faddr 1 (.t 1))⟩,
    ⟨(some 4), none, (.ld false 1 (.t 3))⟩,
    ⟨(some 5), none, (.faddr 2 (.t 1))⟩,
    ⟨(some 6), none, (.ld false 1 (.t 5))⟩,
    ⟨(some 7), none, (.call 30 [(.t 4), (.t 6)])⟩,
    ⟨(some 8), none, (.un .not (.t 7))⟩,
    ⟨(some 9), none, (.mv (.t 8))⟩,
    ⟨(some 10), (some (9, false)), (.faddr 0 (.t 1))⟩,
    ⟨(some 11), (some (9, false)), (.ld false 1 (.t 10))⟩,
    ⟨(some 12), (some (9, false)), (.bin .lss (.t 11) (.c (.int .i64 1)))⟩,
    ⟨(some 13), none, (.pick (.t 9) (.c (.bool true)) (.t 12))⟩,
    ⟨(some 14), none, (.mv (.t 13))⟩,
    ⟨(some 15), (some (14, false)), (.faddr 0 (.t 1))⟩,
    ⟨(some 16), (some (14, false)), (.ld false 1 (.t 15))⟩,
    ⟨(some 17), (some (14, false)), (.bin .gtr (.t 16) (.c (.int .i64 4)))⟩,
    ⟨(some 18), none, (.pick (.t 14) (.c (.bool true)) (.t 17))⟩,
    ⟨(some 19), none, (.mv (.t 18))⟩,
    ⟨(some 20), (some (19, false)), (.faddr 4 (.t 1))⟩,
    ⟨(some 21), (some (19, false)), (.ld false 1 (.t 20))⟩,
    ⟨(some 22), (some (19, false)), (.bin .lss (.t 21) (.c (.int .i64 0)))⟩,
    ⟨(some 23), none, (.pick (.t 19) (.c (.bool true)) (.t 22))⟩,
    ⟨(some 24), none, (.mv (.t 23))⟩,
    ⟨(some 25), (some (24, false)), (.faddr 4 (.t 1))⟩,
    ⟨(some 26), (some (24, false)), (.ld false 1 (.t 25))⟩,
    ⟨(some 27), (some (24, false)), (.bin .gtr (.t 26) (.c (.int .i64 1000000)))⟩,
    ⟨(some 28), none, (.pick (.t 24) (.c (.bool true)) (.t 27))⟩,
    ⟨(some 29), none, (.mv (.t 28))⟩,
    ⟨(some 30), (some (29, false)), (.faddr 5 (.t 1))⟩,
    ⟨(some 31), (some (29, false)), (.ld false 1 (.t 30))⟩,
    ⟨(some 32), (some (29, false)), (.bin .lss (.t 31) (.c (.int .i64 0)))⟩,
    ⟨(some 33), none, (.pick (.t 29) (.c (.bool true)) (.t 32))⟩,
    ⟨(some 34), none, (.mv (.t 33))⟩,
    ⟨(some 35), (some (34, false)), (.faddr 5 (.t 1))⟩,
    ⟨(some 36), (some (34, false)), (.ld false 1 (.t 35))⟩,
    ⟨(some 37), (some (34, false)), (.bin .gtr (.t 36) (.c (.int .i64 1000000)))⟩,
    ⟨(some 38), none, (.pick (.t 34) (.c (.bool true)) (.t 37))⟩] [3, 4, 5, 6, 7, 8, 9, 10, 11, 12, 13, 14, 15, 16, 17, 18, 19, 20, 21, 22, 23, 24, 25, 26, 27, 28, 29, 30, 31, 32, 33, 34, 35, 36, 37])
  (.cond (.t 38)
   (.seq
   (.reg [⟨(some 2), none, (.mv (.c (.bool false)))⟩] [])
   .ret)
   .skip))
  (.seq
  (.seq
  (.reg [⟨(some 39), none, (.faddr 0 (.t 1))⟩,
    ⟨(some 40), none, (.ld false 1 (.t 39))⟩,
    ⟨(some 41), none, (.bin .eql (.t 40) (.c (.int .i64 1)))⟩,
    ⟨(some 42), none, (.faddr 4 (.t 1))⟩,
    ⟨(some 43), none, (.ld false 1 (.t 42))⟩,
    ⟨(some 44), none, (.bin .eql (.t 43) (.c (.int .i64 0)))⟩,
    ⟨(some 45), none, (.eqb true (.t 41) (.t 44))⟩] [39, 40, 41, 42, 43, 44])
  (.cond (.t 45)
   (.seq
   (.reg [⟨(some 2), none, (.mv (.c (.bool false)))⟩] [])
   .ret)
   .skip))
  (.seq
  (.seq
  (.reg [⟨(some 46), none, (.faddr 0 (.t 1))⟩,
    ⟨(some 47), none, (.ld false 1 (.t 46))⟩,
    ⟨(some 48), none, (.bin .eql (.t 47) (.c (.int .i64 4)))⟩] [46, 47])
  (.cond (.t 48)
   (.seq
   (.reg [⟨(some 49), none, (.faddr 3 (.t 1))⟩,
     ⟨(some 50), none, (.ld false 1 (.t 49))⟩,
     ⟨(some 51), none, (.call 43 [(.t 50)])⟩,
     ⟨(some 52), none, (.mv (.t 51))⟩,
     ⟨(some 53), (some (52, true)), (.faddr 2 (.t 1))⟩,
     ⟨(some 54), (some (52, true)), (.ld false 1 (.t 53))⟩,
     ⟨(some 55), (some (52, true)), (.faddr 1 (.t 1))⟩,
     ⟨(some 56), (some (52, true)), (.ld false 1 (.t 55))⟩,
     ⟨(some 57), (some (52, true)), (.bin .sub (.t 54) (.t 56))⟩,
     ⟨(some 58), (some (52, true)), (.faddr 3 (.t 1))⟩,
     ⟨(some 59), (some (52, true)), (.ld false 1 (.t 58))⟩,
     ⟨(some 60), (some (52, true)), (.faddr 3 (.t 1))⟩,
     ⟨(some 61), (some (52, true)), (.ld false 1 (.t 60))⟩,
     ⟨(some 62), (some (52, true)), (.un .neg (.t 61))⟩,
     ⟨(some 63), (some (52, true)), (.mx (.t 59) (.t 62))⟩,
     ⟨(some 64), (some (52, true)), (.bin .leq (.t 57) (.t 63))⟩,
     ⟨(some 65), none, (.pick (.t 52) (.t 64) (.c (.bool false)))⟩,
     ⟨(some 2), none, (.mv (.t 65))⟩] [49, 50, 51, 52, 53, 54, 55, 56, 57, 58, 59, 60, 61, 62, 63, 64, 65])
   .ret)
   .skip))
  (.seq
  (.reg [⟨(some 66), none, (.faddr 3 (.t 1))⟩,
    ⟨(some 67), none, (.ld false 1 (.t 66))⟩,
    ⟨(some 68), none, (.bin .eql (.t 67) (.c (.int .i64 0)))⟩,
    ⟨(some 2), none, (.mv (.t 68))⟩] [66, 67, 68])
  .ret)))))
theorem rcq29 : resC Go.Proofs.Tryd.prog Go.Proofs.Tryd.f29.ntmps ((Go.Proofs.Tryd.f29.body).getD .skip) = some (strip rc29) := by kernel_rfl
def rv29 : List RV := [(.tmp 2)]
theorem rvq29 : Go.Proofs.Tryd.f29.results.toList.mapM (resRV Go.Proofs.Tryd.prog) = some rv29 := by kernel_rfl



structure Stm where
  kind : Int
  start : Int
  stop : Int
  step : Int
  hits : Int
  stamp : Int
def Stm.c (s : Stm) : List V := [.int .i64 s.kind, .int .i64 s.start, .int .i64 s.stop, .int .i64 s.step, .int .i64 s.hits, .int .i64 s.stamp]
def rightA (s : Stm) : Bool := validF s.start s.stop && !(decide (s.kind < 1)) && !(decide (4 < s.kind)) && !(decide (s.stamp < 0)) && !(decide (1000000 < s.stamp))
def rightB (s : Stm) : Bool := !(decide (s.hits < 0)) && !(decide (1000000 < s.hits)) && !!((s.hits == 0) == (s.kind == 1))
def rightT (s : Stm) : Bool := if s.kind == 4 then (bif strideF s.step then decide (IntKind.i64.wrap (s.stop - s.start) ≤ sizeF s.step) else false) else s.step == 0
def rightF (s : Stm) : Bool := rightA s && (rightB s && rightT s)
theorem pur0 {S : Store} {l : List V} (h : l.all (fun v => match v with | .int _ _ => true | .bool _ => true | _ => false) = true) : ∀ v ∈ l, purOK S v := by
  intro v hv
  have := List.all_eq_true.1 h v hv
  cases v <;> first | exact trivial | (simp at this)
theorem right1 (v a b c d : Bool) : (bif bif bif bif !v then true else a then true else b then true else c then true else d) = !(v && !a && !b && !c && !d) := by
  cases v <;> cases a <;> cases b <;> cases c <;> cases d <;> rfl
theorem right2 (a b c : Bool) : (bif bif a then true else b then true else c) = !(!a && !b && !c) := by
  cases a <;> cases b <;> cases c <;> rfl
theorem ok34 (s : Stm) : FnC Tryd.prog 34 [] [.agg s.c] (.bool (rightF s)) [] := by
  refine fn_okF (ob0 := []) (rc := rc34) (rvs := rv34) Tryd.func34 rfl rcq34 rvq34 (show 1 ≤ _ by decide) ?_
  repeat ((conv => whnf); first | refine ⟨rfl, ?_⟩ | refine ⟨Nat.le_of_ble_eq_true rfl, ?_⟩)
  conv => whnf
  refine .inl ⟨_, fun _ => ⟨pur0 rfl, ok35 s.start s.stop⟩, .inl rfl, ?_⟩
  repeat ((conv => whnf); first | refine ⟨rfl, ?_⟩ | refine ⟨Nat.le_of_ble_eq_true rfl, ?_⟩)
  conv => whnf
  refine ⟨fun h1 => ?_, fun h1 => ?_⟩
  · repeat ((conv => whnf); first | refine ⟨rfl, ?_⟩ | refine ⟨Nat.le_of_ble_eq_true rfl, ?_⟩)
    conv => whnf
    refine ⟨[], trivial, rfl, trivial, rfl, ?_⟩
    conv => whnf
    rw [right1] at h1
    have h1 : (!rightA s) = true := h1
    rw [Bool.not_eq_true'] at h1
    rw [rightF, h1]; rfl
  rw [right1] at h1
  have h1 : (!rightA s) = false := h1
  rw [Bool.not_eq_false'] at h1
  repeat ((conv => whnf); first | refine ⟨rfl, ?_⟩ | refine ⟨Nat.le_of_ble_eq_true rfl, ?_⟩)
  conv => whnf
  refine ⟨fun h2 => ?_, fun h2 => ?_⟩
  · repeat ((conv => whnf); first | refine ⟨rfl, ?_⟩ | refine ⟨Nat.le_of_ble_eq_true rfl, ?_⟩)
    conv => whnf
    refine ⟨[], trivial, rfl, trivial, rfl, ?_⟩
    conv => whnf
    rw [right2] at h2
    have h2 : (!rightB s) = true := h2
    rw [Bool.not_eq_true'] at h2
    rw [rightF, h1, h2]; rfl
  rw [right2] at h2
  have h2 : (!rightB s) = false := h2
  rw [Bool.not_eq_false'] at h2
  repeat ((conv => whnf); first | refine ⟨rfl, ?_⟩ | refine ⟨Nat.le_of_ble_eq_true rfl, ?_⟩)
  conv => whnf
  refine ⟨fun h3 => ?_, fun h3 => ?_⟩
  · repeat ((conv => whnf); first | refine ⟨rfl, ?_⟩ | refine ⟨Nat.le_of_ble_eq_true rfl, ?_⟩)
    conv => whnf
    refine ⟨[], trivial, rfl, trivial, rfl, ?_⟩
    conv => whnf
    have h3 : (!(s.kind == 4)) = true := h3
    rw [Bool.not_eq_true'] at h3
    rw [rightF, h1, h2, rightT, h3]; rfl
  repeat ((conv => whnf); first | refine ⟨rfl, ?_⟩ | refine ⟨Nat.le_of_ble_eq_true rfl, ?_⟩)
  conv => whnf
  refine .inl ⟨_, fun _ => ⟨pur0 rfl, ok44 s.step⟩, .inl rfl, ?_⟩
  repeat ((conv => whnf); first | refine ⟨rfl, ?_⟩ | refine ⟨Nat.le_of_ble_eq_true rfl, ?_⟩)
  conv => whnf
  refine .inl ⟨_, fun _ => ⟨pur0 rfl, ok45 s.step⟩, .inl rfl, ?_⟩
  repeat ((conv => whnf); first | refine ⟨rfl, ?_⟩ | refine ⟨Nat.le_of_ble_eq_true rfl, ?_⟩)
  conv => whnf
  refine ⟨[], trivial, rfl, trivial, rfl, ?_⟩
  conv => whnf
  have h3 : (!(s.kind == 4)) = false := h3
  rw [Bool.not_eq_false'] at h3
  rw [rightF, h1, h2, rightT, h3]; rfl
theorem right3 (v a b e f c d : Bool) : (bif bif bif bif bif bif !v then true else a then true else b then true else e then true else f then true else c then true else d) = !(v && !a && !b && !e && !f && !c && !d) := by
  cases v <;> cases a <;> cases b <;> cases c <;> cases d <;> cases e <;> cases f <;> rfl
def rightA' (s : Stm) : Bool := validF s.start s.stop && !(decide (s.kind < 1)) && !(decide (4 < s.kind)) && !(decide (s.hits < 0)) && !(decide (1000000 < s.hits)) && !(decide (s.stamp < 0)) && !(decide (1000000 < s.stamp))
def rightB' (s : Stm) : Bool := (s.kind == 1) == (s.hits == 0)
theorem rightF_ref (s : Stm) : rightF s = (rightA' s && (rightB' s && rightT s)) := by
  simp only [rightF, rightA, rightB, rightA', rightB']
  generalize validF s.start s.stop = v
  generalize decide (s.kind < 1) = a
  generalize decide (4 < s.kind) = b
  generalize decide (s.hits < 0) = e
  generalize decide (1000000 < s.hits) = f
  generalize decide (s.stamp < 0) = c
  generalize decide (1000000 < s.stamp) = d
  generalize (s.kind == 1) = g
  generalize (s.hits == 0) = h
  generalize rightT s = t
  cases v <;> cases a <;> cases b <;> cases c <;> cases d <;> cases e <;> cases f <;> cases g <;> cases h <;> rfl
theorem ok29 (s : Stm) : FnC Tryd.prog 29 [] [.agg s.c] (.bool (rightF s)) [] := by
  rw [rightF_ref]
  refine fn_okF (ob0 := []) (rc := rc29) (rvs := rv29) Tryd.func29 rfl rcq29 rvq29 (show 1 ≤ _ by decide) ?_
  repeat ((conv => whnf); first | refine ⟨rfl, ?_⟩ | refine ⟨Nat.le_of_ble_eq_true rfl, ?_⟩)
  conv => whnf
  refine .inl ⟨_, fun _ => ⟨pur0 rfl, ok30 s.start s.stop⟩, .inl rfl, ?_⟩
  repeat ((conv => whnf); first | refine ⟨rfl, ?_⟩ | refine ⟨Nat.le_of_ble_eq_true rfl, ?_⟩)
  conv => whnf
  refine ⟨fun h1 => ?_, fun h1 => ?_⟩
  · repeat ((conv => whnf); first | refine ⟨rfl, ?_⟩ | refine ⟨Nat.le_of_ble_eq_true rfl, ?_⟩)
    conv => whnf
    refine ⟨[], trivial, rfl, trivial, rfl, ?_⟩
    conv => whnf
    rw [right3] at h1
    have h1 : (!rightA' s) = true := h1
    rw [Bool.not_eq_true'] at h1
    rw [h1]; rfl
  rw [right3] at h1
  have h1 : (!rightA' s) = false := h1
  rw [Bool.not_eq_false'] at h1
  rw [h1]
  repeat ((conv => whnf); first | refine ⟨rfl, ?_⟩ | refine ⟨Nat.le_of_ble_eq_true rfl, ?_⟩)
  conv => whnf
  refine ⟨fun h2 => ?_, fun h2 => ?_⟩
  · repeat ((conv => whnf); first | refine ⟨rfl, ?_⟩ | refine ⟨Nat.le_of_ble_eq_true rfl, ?_⟩)
    conv => whnf
    refine ⟨[], trivial, rfl, trivial, rfl, ?_⟩
    conv => whnf
    have h2 : (!rightB' s) = true := h2
    rw [Bool.not_eq_true'] at h2
    rw [h2]; rfl
  have h2 : (!rightB' s) = false := h2
  rw [Bool.not_eq_false'] at h2
  rw [h2]
  repeat ((conv => whnf); first | refine ⟨rfl, ?_⟩ | refine ⟨Nat.le_of_ble_eq_true rfl, ?_⟩)
  conv => whnf
  refine ⟨fun h3 => ?_, fun h3 => ?_⟩
  · repeat ((conv => whnf); first | refine ⟨rfl, ?_⟩ | refine ⟨Nat.le_of_ble_eq_true rfl, ?_⟩)
    conv => whnf
    refine .inl ⟨_, fun _ => ⟨pur0 rfl, ok43 s.step⟩, .inl rfl, ?_⟩
    repeat ((conv => whnf); first | refine ⟨rfl, ?_⟩ | refine ⟨Nat.le_of_ble_eq_true rfl, ?_⟩)
    conv => whnf
    refine ⟨[], trivial, rfl, trivial, rfl, ?_⟩
    conv => whnf
    have h3 : (s.kind == 4) = true := h3
    rw [rightT, h3]; rfl
  repeat ((conv => whnf); first | refine ⟨rfl, ?_⟩ | refine ⟨Nat.le_of_ble_eq_true rfl, ?_⟩)
  conv => whnf
  refine ⟨[], trivial, rfl, trivial, rfl, ?_⟩
  conv => whnf
  have h3 : (s.kind == 4) = false := h3
  rw [rightT, h3]; rfl
end Go.Proofs.YteelckbeekgfiaaDoor
