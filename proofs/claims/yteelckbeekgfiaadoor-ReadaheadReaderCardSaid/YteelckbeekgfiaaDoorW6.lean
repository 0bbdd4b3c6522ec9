/- Stream: better, Matches; the reference's. -/
import Derived.Test.YteelckbeekgfiaaDoorW4
import Derived.Test.YteelckbeekgfiaaDoorSkS
set_option linter.unusedSimpArgs false
set_option linter.unusedVariables false
namespace Go.Proofs.YteelckbeekgfiaaDoor
open Go Go.Sk Go.RowKit

/- pagecache/stream.better -/
def rc37 : RC :=
  (.seq
  (.reg [⟨(some 2), none, (.box (.t 0))⟩,
    ⟨(some 3), none, (.box (.t 1))⟩,
    ⟨(some 4), none, (.mv (.c (.bool false)))⟩] [])
  (.seq
  (.seq
  (.reg [⟨(some 5), none, (.ld true 6 (.t 3))⟩,
    ⟨(some 6), none, (.build [(.int .i64 0), (.int .i64 0), (.int .i64 0), (.int .i64 0), (.int .i64 0), (.int .i64 0)] [])⟩,
    ⟨(some 7), none, (.eqs false [(0, false), (1, false), (2, false), (3, false), (4, false), (5, false)] (.t 5) (.t 6))⟩] [5, 6])
  (.cond (.t 7)
   (.seq
   (.reg [⟨(some 4), none, (.mv (.c (.bool true)))⟩] [])
   .ret)
   .skip))
  (.seq
  (.seq
  (.reg [⟨(some 8), none, (.faddr 0 (.t 2))⟩,
    ⟨(some 9), none, (.ld false 1 (.t 8))⟩,
    ⟨(some 10), none, (.bin .eql (.t 9) (.c (.int .i64 1)))⟩,
    ⟨(some 11), none, (.faddr 0 (.t 3))⟩,
    ⟨(some 12), none, (.ld false 1 (.t 11))⟩,
    ⟨(some 13), none, (.bin .eql (.t 12) (.c (.int .i64 1)))⟩,
    ⟨(some 14), none, (.eqb true (.t 10) (.t 13))⟩] [8, 9, 10, 11, 12, 13])
  (.cond (.t 14)
   (.seq
   (.reg [⟨(some 15), none, (.faddr 0 (.t 3))⟩,
     ⟨(some 16), none, (.ld false 1 (.t 15))⟩,
     ⟨(some 17), none, (.bin .eql (.t 16) (.c (.int .i64 1)))⟩,
     ⟨(some 4), none, (.mv (.t 17))⟩] [15, 16, 17])
   .ret)
   .skip))
  (.seq
  (.seq
  (.reg [⟨(some 18), none, (.faddr 4 (.t 2))⟩,
    ⟨(some 19), none, (.ld false 1 (.t 18))⟩,
    ⟨(some 20), none, (.faddr 4 (.t 3))⟩,
    ⟨(some 21), none, (.ld false 1 (.t 20))⟩,
    ⟨(some 22), none, (.bin .neq (.t 19) (.t 21))⟩] [18, 19, 20, 21])
  (.cond (.t 22)
   (.seq
   (.reg [⟨(some 23), none, (.faddr 4 (.t 2))⟩,
     ⟨(some 24), none, (.ld false 1 (.t 23))⟩,
     ⟨(some 25), none, (.faddr 4 (.t 3))⟩,
     ⟨(some 26), none, (.ld false 1 (.t 25))⟩,
     ⟨(some 27), none, (.bin .gtr (.t 24) (.t 26))⟩,
     ⟨(some 4), none, (.mv (.t 27))⟩] [23, 24, 25, 26, 27])
   .ret)
   .skip))
  (.seq
  (.reg [⟨(some 28), none, (.faddr 5 (.t 2))⟩,
    ⟨(some 29), none, (.ld false 1 (.t 28))⟩,
    ⟨(some 30), none, (.faddr 5 (.t 3))⟩,
    ⟨(some 31), none, (.ld false 1 (.t 30))⟩,
    ⟨(some 32), none, (.bin .gtr (.t 29) (.t 31))⟩,
    ⟨(some 4), none, (.mv (.t 32))⟩] [28, 29, 30, 31, 32])
  .ret)))))
theorem rcq37 : resC Go.Proofs.Tryd.prog Go.Proofs.Tryd.f37.ntmps ((Go.Proofs.Tryd.f37.body).getD .skip) = some (strip rc37) := by kernel_rfl
def rv37 : List RV := [(.tmp 4)]
theorem rvq37 : Go.Proofs.Tryd.f37.results.toList.mapM (resRV Go.Proofs.Tryd.prog) = some rv37 := by kernel_rfl

/- pagecache/pagecacheref06.better -/
def rc40 : RC :=
  (.seq
  (.reg [⟨(some 2), none, (.box (.t 0))⟩,
    ⟨(some 3), none, (.box (.t 1))⟩,
    ⟨(some 4), none, (.mv (.c (.bool false)))⟩] [])
  (.seq
  (.seq
  (.reg [⟨(some 5), none, (.faddr 0 (.t 2))⟩,
    ⟨(some 6), none, (.ld false 1 (.t 5))⟩,
    ⟨(some 7), none, (.bin .eql (.t 6) (.c (.int .i64 1)))⟩,
    ⟨(some 8), none, (.faddr 0 (.t 3))⟩,
    ⟨(some 9), none, (.ld false 1 (.t 8))⟩,
    ⟨(some 10), none, (.bin .eql (.t 9) (.c (.int .i64 1)))⟩,
    ⟨(some 11), none, (.eqb true (.t 7) (.t 10))⟩] [5, 6, 7, 8, 9, 10])
  (.cond (.t 11)
   (.seq
   (.reg [⟨(some 12), none, (.faddr 0 (.t 3))⟩,
     ⟨(some 13), none, (.ld false 1 (.t 12))⟩,
     ⟨(some 14), none, (.bin .eql (.t 13) (.c (.int .i64 1)))⟩,
     ⟨(some 4), none, (.mv (.t 14))⟩] [12, 13, 14])
   .ret)
   .skip))
  (.seq
  (.seq
  (.reg [⟨(some 15), none, (.faddr 4 (.t 2))⟩,
    ⟨(some 16), none, (.ld false 1 (.t 15))⟩,
    ⟨(some 17), none, (.faddr 4 (.t 3))⟩,
    ⟨(some 18), none, (.ld false 1 (.t 17))⟩,
    ⟨(some 19), none, (.bin .neq (.t 16) (.t 18))⟩] [15, 16, 17, 18])
  (.cond (.t 19)
   (.seq
   (.reg [⟨(some 20), none, (.faddr 4 (.t 2))⟩,
     ⟨(some 21), none, (.ld false 1 (.t 20))⟩,
     ⟨(some 22), none, (.faddr 4 (.t 3))⟩,
     ⟨(some 23), none, (.ld false 1 (.t 22))⟩,
     ⟨(some 24), none, (.bin .gtr (.t 21) (.t 23))⟩,
     ⟨(some 4), none, (.mv (.t 24))⟩] [20, 21, 22, 23, 24])
   .ret)
   .skip))
  (.seq
  (.reg [⟨(some 25), none, (.faddr 5 (.t 2))⟩,
    ⟨(some 26), none, (.ld false 1 (.t 25))⟩,
    ⟨(some 27), none, (.faddr 5 (.t 3))⟩,
    ⟨(some 28), none, (.ld false 1 (.t 27))⟩,
    ⟨(some 29), none, (.bin .gtr (.t 26) (.t 28))⟩,
    ⟨(some 4), none, (.mv (.t 29))⟩] [25, 26, 27, 28, 29])
  .ret))))
theorem rcq40 : resC Go.Proofs.Tryd.prog Go.Proofs.Tryd.f40.ntmps ((Go.Proofs.Tryd.f40.body).getD .skip) = some (strip rc40) := by kernel_rfl
def rv40 : List RV := [(.tmp 4)]
theorem rvq40 : Go.Proofs.Tryd.f40.results.toList.mapM (resRV Go.Proofs.Tryd.prog) = some rv40 := by kernel_rfl

/- pagecache/stream.Matches -/
def rc36 : RC :=
  (.seq
  (.reg [⟨(some 3), none, (.box (.t 0))⟩,
    ⟨(some 6), none, (.alloc [(.int .i64 0), (.int .i64 0), (.int .i64 0), (.int .i64 0), (.int .i64 0), (.int .i64 0)])⟩,
    ⟨(some 7), none, (.mv (.c (.bool false)))⟩] [])
  (.seq
  (.seq
  (.reg [⟨(some 11), none, (.ld true 6 (.t 3))⟩,
    ⟨(some 12), none, (.call 34 [(.t 11)])⟩,
    ⟨(some 13), none, (.un .not (.t 12))⟩,
    ⟨(some 14), none, (.mv (.t 13))⟩,
    ⟨(some 15), (some (14, false)), (.mv (.t 1))⟩,
    ⟨(some 16), (some (14, false)), (.mv (.t 2))⟩,
    ⟨(some 17), (some (14, false)), (.call 35 [(.t 15), (.t 16)])⟩,
    ⟨(some 18), (some (14, false)), (.un .not (.t 17))⟩,
    ⟨(some 19), none, (.pick (.t 14) (.c (.bool true)) (.t 18))⟩] [11, 12, 13, 14, 15, 16, 17, 18])
  (.cond (.t 19)
   (.seq
   (.reg [⟨(some 20), none, (.ld true 6 (.t 3))⟩,
     ⟨none, none, (.st 6 (.t 6) (.t 20))⟩,
     ⟨(some 7), none, (.mv (.c (.bool false)))⟩] [20])
   .ret)
   .skip))
  (.seq
  (.reg [⟨(some 22), none, (.ld true 6 (.t 3))⟩,
    ⟨(some 23), none, (.mv (.t 1))⟩,
    ⟨(some 24), none, (.mv (.t 2))⟩,
    ⟨(some 25), none, (.call 46 [(.t 22), (.t 23), (.t 24)])⟩,
    ⟨(some 21), none, (.mv (.t 25))⟩,
    ⟨(some 26), none, (.extr 0 (.t 21))⟩,
    ⟨(some 27), none, (.extr 1 (.t 21))⟩,
    ⟨(some 8), none, (.mv (.t 26))⟩,
    ⟨(some 9), none, (.mv (.t 27))⟩] [22, 23, 24, 25, 21, 26, 27])
  (.seq
  (.seq
  (.reg [⟨(some 28), none, (.mv (.t 9))⟩,
    ⟨(some 29), none, (.un .not (.t 28))⟩] [28])
  (.cond (.t 29)
   (.seq
   (.dreg 6144 6352 [⟨(some 30), none, (.ld true 6 (.t 3))⟩,
     ⟨(some 31), none, (.mv (.t 1))⟩,
     ⟨(some 32), none, (.faddr 1 (.t 3))⟩,
     ⟨(some 33), none, (.ld false 1 (.t 32))⟩,
     ⟨(some 34), none, (.bin .geq (.t 31) (.t 33))⟩,
     ⟨(some 35), none, (.mv (.t 34))⟩,
     ⟨(some 36), (some (35, true)), (.mv (.t 2))⟩,
     ⟨(some 37), (some (35, true)), (.faddr 2 (.t 3))⟩,
     ⟨(some 38), (some (35, true)), (.ld false 1 (.t 37))⟩,
     ⟨(some 39), (some (35, true)), (.bin .leq (.t 36) (.t 38))⟩,
     ⟨(some 40), none, (.pick (.t 35) (.t 39) (.c (.bool false)))⟩,
     ⟨none, none, (.st 6 (.t 6) (.t 30))⟩,
     ⟨(some 7), none, (.mv (.t 40))⟩] [30, 31, 32, 33, 34, 35, 36, 37, 38, 39, 40] [[], [], [], [2], [1, 3, 2], [4, 2, 3, 1], [5, 1, 3, 2, 4], [5, 1, 3, 2, 4], [7, 5, 1, 3, 2, 4], [6, 8, 7, 5, 1, 3, 2, 4], [9, 4, 2, 3, 1, 5, 7, 8, 6], [5, 1, 3, 2, 4, 0], [10, 6, 8, 7, 9, 11, 0, 4, 2, 3, 1, 5]] [6144, 6160, 6176, 6192, 6208, 6224, 6240, 6256, 6272, 6288, 6304, 6320, 6336])
   .ret)
   .skip))
  (.seq
  (.reg [⟨(some 41), none, (.mv (.t 8))⟩,
    ⟨(some 42), none, (.mv (.t 1))⟩,
    ⟨(some 43), none, (.mv (.t 2))⟩,
    ⟨(some 44), none, (.faddr 4 (.t 3))⟩,
    ⟨(some 45), none, (.ld false 1 (.t 44))⟩,
    ⟨(some 46), none, (.bin .add (.t 45) (.c (.int .i64 1)))⟩,
    ⟨(some 47), none, (.mn (.t 46) (.c (.int .i64 1000000)))⟩,
    ⟨(some 48), none, (.faddr 5 (.t 3))⟩,
    ⟨(some 49), none, (.ld false 1 (.t 48))⟩,
    ⟨(some 50), none, (.build [(.int .i64 0), (.int .i64 0), (.int .i64 0), (.int .i64 0), (.int .i64 0), (.int .i64 0)] [(0, (1, (.t 41))), (1, (1, (.t 42))), (2, (1, (.t 43))), (4, (1, (.t 47))), (5, (1, (.t 49)))])⟩,
    ⟨(some 10), none, (.alloc [(.int .i64 0), (.int .i64 0), (.int .i64 0), (.int .i64 0), (.int .i64 0), (.int .i64 0)])⟩,
    ⟨none, none, (.st 6 (.t 10) (.t 50))⟩] [41, 42, 43, 44, 45, 46, 47, 48, 49, 50])
  (.seq
  (.seq
  (.reg [⟨(some 51), none, (.mv (.t 8))⟩,
    ⟨(some 52), none, (.bin .eql (.t 51) (.c (.int .i64 4)))⟩] [51])
  (.cond (.t 52)
   (.reg [⟨(some 53), none, (.mv (.t 1))⟩,
     ⟨(some 54), none, (.faddr 1 (.t 3))⟩,
     ⟨(some 55), none, (.ld false 1 (.t 54))⟩,
     ⟨(some 56), none, (.bin .sub (.t 53) (.t 55))⟩,
     ⟨(some 57), none, (.faddr 3 (.t 10))⟩,
     ⟨none, none, (.st 1 (.t 57) (.t 56))⟩] [53, 54, 55, 56, 57])
   .skip))
  (.seq
  (.reg [⟨(some 58), none, (.ld true 6 (.t 10))⟩,
    ⟨none, none, (.st 6 (.t 6) (.t 58))⟩,
    ⟨(some 7), none, (.mv (.c (.bool true)))⟩] [58])
  .ret)))))))
theorem rcq36 : resC Go.Proofs.Tryd.prog Go.Proofs.Tryd.f36.ntmps ((Go.Proofs.Tryd.f36.body).getD .skip) = some (strip rc36) := by kernel_rfl
def rv36 : List RV := [(.cell 6 true 6), (.tmp 7)]
theorem rvq36 : Go.Proofs.Tryd.f36.results.toList.mapM (resRV Go.Proofs.Tryd.prog) = some rv36 := by kernel_rfl

/- pagecache/pagecacheref06.Matches -/
def rc39 : RC :=
  (.seq
  (.reg [⟨(some 3), none, (.box (.t 0))⟩,
    ⟨(some 6), none, (.alloc [(.int .i64 0), (.int .i64 0), (.int .i64 0), (.int .i64 0), (.int .i64 0), (.int .i64 0)])⟩,
    ⟨(some 7), none, (.mv (.c (.bool false)))⟩] [])
  (.seq
  (.seq
  (.reg [⟨(some 13), none, (.ld true 6 (.t 3))⟩,
    ⟨(some 14), none, (.call 29 [(.t 13)])⟩,
    ⟨(some 15), none, (.un .not (.t 14))⟩,
    ⟨(some 16), none, (.mv (.t 15))⟩,
    ⟨(some 17), (some (16, false)), (.mv (.t 1))⟩,
    ⟨(some 18), (some (16, false)), (.mv (.t 2))⟩,
    ⟨(some 19), (some (16, false)), (.call 30 [(.t 17), (.t 18)])⟩,
    ⟨(some 20), (some (16, false)), (.un .not (.t 19))⟩,
    ⟨(some 21), none, (.pick (.t 16) (.c (.bool true)) (.t 20))⟩] [13, 14, 15, 16, 17, 18, 19, 20])
  (.cond (.t 21)
   (.seq
   (.reg [⟨(some 22), none, (.ld true 6 (.t 3))⟩,
     ⟨none, none, (.st 6 (.t 6) (.t 22))⟩,
     ⟨(some 7), none, (.mv (.c (.bool false)))⟩] [22])
   .ret)
   .skip))
  (.seq
  (.reg [⟨(some 23), none, (.faddr 0 (.t 3))⟩,
    ⟨(some 24), none, (.ld false 1 (.t 23))⟩,
    ⟨(some 25), none, (.bin .eql (.t 24) (.c (.int .i64 1)))⟩,
    ⟨(some 8), none, (.mv (.t 25))⟩] [23, 24, 25])
  (.seq
  (.reg [⟨(some 26), none, (.mv (.t 1))⟩,
    ⟨(some 27), none, (.faddr 1 (.t 3))⟩,
    ⟨(some 28), none, (.ld false 1 (.t 27))⟩,
    ⟨(some 29), none, (.bin .sub (.t 26) (.t 28))⟩,
    ⟨(some 9), none, (.mv (.t 29))⟩] [26, 27, 28, 29])
  (.seq
  (.reg [⟨(some 30), none, (.mv (.t 9))⟩,
    ⟨(some 31), none, (.mv (.t 9))⟩,
    ⟨(some 32), none, (.un .neg (.t 31))⟩,
    ⟨(some 33), none, (.mx (.t 30) (.t 32))⟩,
    ⟨(some 10), none, (.mv (.t 33))⟩] [30, 31, 32, 33])
  (.seq
  (.reg [⟨(some 34), none, (.faddr 0 (.t 3))⟩,
    ⟨(some 35), none, (.ld false 1 (.t 34))⟩,
    ⟨(some 36), none, (.bin .eql (.t 35) (.c (.int .i64 4)))⟩,
    ⟨(some 37), none, (.mv (.t 36))⟩,
    ⟨(some 38), (some (37, true)), (.mv (.t 9))⟩,
    ⟨(some 39), (some (37, true)), (.faddr 3 (.t 3))⟩,
    ⟨(some 40), (some (37, true)), (.ld false 1 (.t 39))⟩,
    ⟨(some 41), (some (37, true)), (.bin .eql (.t 38) (.t 40))⟩,
    ⟨(some 42), none, (.pick (.t 37) (.t 41) (.c (.bool false)))⟩,
    ⟨(some 43), none, (.mv (.t 42))⟩,
    ⟨(some 44), (some (43, false)), (.mv (.t 8))⟩,
    ⟨(some 45), (some (43, false)), (.mv (.t 44))⟩,
    ⟨(some 46), (some (45, true)), (.mv (.t 9))⟩,
    ⟨(some 47), (some (45, true)), (.call 43 [(.t 46)])⟩,
    ⟨(some 48), (some (43, false)), (.pick (.t 45) (.t 47) (.c (.bool false)))⟩,
    ⟨(some 49), (some (43, false)), (.mv (.t 48))⟩,
    ⟨(some 50), (some (49, true)), (.faddr 2 (.t 3))⟩,
    ⟨(some 51), (some (49, true)), (.ld false 1 (.t 50))⟩,
    ⟨(some 52), (some (49, true)), (.faddr 1 (.t 3))⟩,
    ⟨(some 53), (some (49, true)), (.ld false 1 (.t 52))⟩,
    ⟨(some 54), (some (49, true)), (.bin .sub (.t 51) (.t 53))⟩,
    ⟨(some 55), (some (49, true)), (.mv (.t 10))⟩,
    ⟨(some 56), (some (49, true)), (.bin .leq (.t 54) (.t 55))⟩,
    ⟨(some 57), (some (43, false)), (.pick (.t 49) (.t 56) (.c (.bool false)))⟩,
    ⟨(some 58), none, (.pick (.t 43) (.c (.bool true)) (.t 57))⟩,
    ⟨(some 11), none, (.mv (.t 58))⟩] [34, 35, 36, 37, 38, 39, 40, 41, 42, 43, 44, 45, 46, 47, 48, 49, 50, 51, 52, 53, 54, 55, 56, 57, 58])
  (.seq
  (.reg [⟨(some 59), none, (.mv (.t 1))⟩,
    ⟨(some 60), none, (.mv (.t 2))⟩,
    ⟨(some 61), none, (.faddr 4 (.t 3))⟩,
    ⟨(some 62), none, (.ld false 1 (.t 61))⟩,
    ⟨(some 63), none, (.bin .add (.t 62) (.c (.int .i64 1)))⟩,
    ⟨(some 64), none, (.mn (.t 63) (.c (.int .i64 1000000)))⟩,
    ⟨(some 65), none, (.faddr 5 (.t 3))⟩,
    ⟨(some 66), none, (.ld false 1 (.t 65))⟩,
    ⟨(some 67), none, (.build [(.int .i64 0), (.int .i64 0), (.int .i64 0), (.int .i64 0), (.int .i64 0), (.int .i64 0)] [(1, (1, (.t 59))), (2, (1, (.t 60))), (4, (1, (.t 64))), (5, (1, (.t 66)))])⟩,
    ⟨(some 12), none, (.alloc [(.int .i64 0), (.int .i64 0), (.int .i64 0), (.int .i64 0), (.int .i64 0), (.int .i64 0)])⟩,
    ⟨none, none, (.st 6 (.t 12) (.t 67))⟩] [59, 60, 61, 62, 63, 64, 65, 66, 67])
  (.seq
  (.block 0
   (.seq
   (.reg [⟨(some 70), none, (.mv (.t 8))⟩,
     ⟨(some 71), none, (.mv (.t 70))⟩,
     ⟨(some 72), (some (71, false)), (.faddr 0 (.t 3))⟩,
     ⟨(some 73), (some (71, false)), (.ld false 1 (.t 72))⟩,
     ⟨(some 74), (some (71, false)), (.bin .eql (.t 73) (.c (.int .i64 2)))⟩,
     ⟨(some 75), none, (.pick (.t 71) (.c (.bool true)) (.t 74))⟩,
     ⟨(some 76), none, (.mv (.t 75))⟩,
     ⟨(some 77), (some (76, true)), (.mv (.t 1))⟩,
     ⟨(some 78), (some (76, true)), (.faddr 2 (.t 3))⟩,
     ⟨(some 79), (some (76, true)), (.ld false 1 (.t 78))⟩,
     ⟨(some 80), (some (76, true)), (.bin .eql (.t 77) (.t 79))⟩,
     ⟨(some 81), (some (76, true)), (.mv (.t 80))⟩,
     ⟨(some 82), (some (81, false)), (.mv (.t 1))⟩,
     ⟨(some 83), (some (81, false)), (.faddr 2 (.t 3))⟩,
     ⟨(some 84), (some (81, false)), (.ld false 1 (.t 83))⟩,
     ⟨(some 85), (some (81, false)), (.bin .sub (.t 84) (.c (.int .i64 1)))⟩,
     ⟨(some 86), (some (81, false)), (.bin .eql (.t 82) (.t 85))⟩,
     ⟨(some 87), (some (76, true)), (.pick (.t 81) (.c (.bool true)) (.t 86))⟩,
     ⟨(some 88), none, (.pick (.t 76) (.t 87) (.c (.bool false)))⟩,
     ⟨(some 89), none, (.mv (.t 88))⟩,
     ⟨(some 90), (some (89, true)), (.mv (.t 2))⟩,
     ⟨(some 91), (some (89, true)), (.faddr 2 (.t 3))⟩,
     ⟨(some 92), (some (89, true)), (.ld false 1 (.t 91))⟩,
     ⟨(some 93), (some (89, true)), (.bin .gtr (.t 90) (.t 92))⟩,
     ⟨(some 94), none, (.pick (.t 89) (.t 93) (.c (.bool false)))⟩,
     ⟨(some 69), none, (.mv (.t 94))⟩] [70, 71, 72, 73, 74, 75, 76, 77, 78, 79, 80, 81, 82, 83, 84, 85, 86, 87, 88, 89, 90, 91, 92, 93, 94])
   (.cond (.t 69)
    (.reg [⟨(some 95), none, (.faddr 0 (.t 12))⟩,
      ⟨none, none, (.st 1 (.t 95) (.c (.int .i64 2)))⟩] [95])
    (.seq
    (.reg [⟨(some 97), none, (.mv (.t 8))⟩,
      ⟨(some 98), none, (.mv (.t 97))⟩,
      ⟨(some 99), (some (98, false)), (.faddr 0 (.t 3))⟩,
      ⟨(some 100), (some (98, false)), (.ld false 1 (.t 99))⟩,
      ⟨(some 101), (some (98, false)), (.bin .eql (.t 100) (.c (.int .i64 3)))⟩,
      ⟨(some 102), none, (.pick (.t 98) (.c (.bool true)) (.t 101))⟩,
      ⟨(some 103), none, (.mv (.t 102))⟩,
      ⟨(some 104), (some (103, true)), (.mv (.t 2))⟩,
      ⟨(some 105), (some (103, true)), (.faddr 1 (.t 3))⟩,
      ⟨(some 106), (some (103, true)), (.ld false 1 (.t 105))⟩,
      ⟨(some 107), (some (103, true)), (.bin .eql (.t 104) (.t 106))⟩,
      ⟨(some 108), (some (103, true)), (.mv (.t 107))⟩,
      ⟨(some 109), (some (108, false)), (.mv (.t 2))⟩,
      ⟨(some 110), (some (108, false)), (.faddr 1 (.t 3))⟩,
      ⟨(some 111), (some (108, false)), (.ld false 1 (.t 110))⟩,
      ⟨(some 112), (some (108, false)), (.bin .add (.t 111) (.c (.int .i64 1)))⟩,
      ⟨(some 113), (some (108, false)), (.bin .eql (.t 109) (.t 112))⟩,
      ⟨(some 114), (some (103, true)), (.pick (.t 108) (.c (.bool true)) (.t 113))⟩,
      ⟨(some 115), none, (.pick (.t 103) (.t 114) (.c (.bool false)))⟩,
      ⟨(some 116), none, (.mv (.t 115))⟩,
      ⟨(some 117), (some (116, true)), (.mv (.t 1))⟩,
      ⟨(some 118), (some (116, true)), (.faddr 1 (.t 3))⟩,
      ⟨(some 119), (some (116, true)), (.ld false 1 (.t 118))⟩,
      ⟨(some 120), (some (116, true)), (.bin .lss (.t 117) (.t 119))⟩,
      ⟨(some 121), none, (.pick (.t 116) (.t 120) (.c (.bool false)))⟩,
      ⟨(some 96), none, (.mv (.t 121))⟩] [97, 98, 99, 100, 101, 102, 103, 104, 105, 106, 107, 108, 109, 110, 111, 112, 113, 114, 115, 116, 117, 118, 119, 120, 121])
    (.cond (.t 96)
     (.reg [⟨(some 122), none, (.faddr 0 (.t 12))⟩,
       ⟨none, none, (.st 1 (.t 122) (.c (.int .i64 3)))⟩] [122])
     (.seq
     (.reg [⟨(some 124), none, (.mv (.t 11))⟩,
       ⟨(some 125), none, (.mv (.t 124))⟩,
       ⟨(some 126), (some (125, true)), (.mv (.t 2))⟩,
       ⟨(some 127), (some (125, true)), (.mv (.t 1))⟩,
       ⟨(some 128), (some (125, true)), (.bin .sub (.t 126) (.t 127))⟩,
       ⟨(some 129), (some (125, true)), (.mv (.t 10))⟩,
       ⟨(some 130), (some (125, true)), (.bin .leq (.t 128) (.t 129))⟩,
       ⟨(some 131), none, (.pick (.t 125) (.t 130) (.c (.bool false)))⟩,
       ⟨(some 123), none, (.mv (.t 131))⟩] [124, 125, 126, 127, 128, 129, 130, 131])
     (.cond (.t 123)
      (.reg [⟨(some 132), none, (.mv (.t 9))⟩,
        ⟨(some 133), none, (.faddr 0 (.t 12))⟩,
        ⟨none, none, (.st 1 (.t 133) (.c (.int .i64 4)))⟩,
        ⟨(some 134), none, (.faddr 3 (.t 12))⟩,
        ⟨none, none, (.st 1 (.t 134) (.t 132))⟩] [132, 133, 134])
      (.seq
      (.reg [⟨(some 136), none, (.mv (.t 1))⟩,
        ⟨(some 137), none, (.faddr 1 (.t 3))⟩,
        ⟨(some 138), none, (.ld false 1 (.t 137))⟩,
        ⟨(some 139), none, (.bin .geq (.t 136) (.t 138))⟩,
        ⟨(some 140), none, (.mv (.t 139))⟩,
        ⟨(some 141), (some (140, true)), (.mv (.t 2))⟩,
        ⟨(some 142), (some (140, true)), (.faddr 2 (.t 3))⟩,
        ⟨(some 143), (some (140, true)), (.ld false 1 (.t 142))⟩,
        ⟨(some 144), (some (140, true)), (.bin .leq (.t 141) (.t 143))⟩,
        ⟨(some 145), none, (.pick (.t 140) (.t 144) (.c (.bool false)))⟩,
        ⟨(some 135), none, (.mv (.t 145))⟩] [136, 137, 138, 139, 140, 141, 142, 143, 144, 145])
      (.cond (.t 135)
       (.seq
       (.reg [⟨(some 146), none, (.ld true 6 (.t 3))⟩,
         ⟨none, none, (.st 6 (.t 6) (.t 146))⟩,
         ⟨(some 7), none, (.mv (.c (.bool true)))⟩] [146])
       .ret)
       (.seq
       (.reg [⟨(some 68), none, (.ld true 6 (.t 3))⟩,
         ⟨none, none, (.st 6 (.t 6) (.t 68))⟩,
         ⟨(some 7), none, (.mv (.c (.bool false)))⟩] [68])
       .ret))))))))))
  (.seq
  (.reg [⟨(some 147), none, (.ld true 6 (.t 12))⟩,
    ⟨none, none, (.st 6 (.t 6) (.t 147))⟩,
    ⟨(some 7), none, (.mv (.c (.bool true)))⟩] [147])
  .ret)))))))))
theorem rcq39 : resC Go.Proofs.Tryd.prog Go.Proofs.Tryd.f39.ntmps ((Go.Proofs.Tryd.f39.body).getD .skip) = some (strip rc39) := by kernel_rfl
def rv39 : List RV := [(.cell 6 true 6), (.tmp 7)]
theorem rvq39 : Go.Proofs.Tryd.f39.results.toList.mapM (resRV Go.Proofs.Tryd.prog) = some rv39 := by kernel_rfl

def purB1 : V → Bool
  | .sl _ _ _ => false
  | _ => true
def purB : V → Bool
  | .agg cs => cs.all purB1
  | v => purB1 v
theorem purB1_OK {S : Store} {v : V} (h : purB1 v = true) : purOK1 S v := by
  cases v <;> first | exact trivial | (simp [purB1] at h)
theorem purB_OK {S : Store} {v : V} (h : purB v = true) : purOK S v := by
  cases v with
  | agg cs => intro c hc; exact purB1_OK (List.all_eq_true.1 h c hc)
  | sl k o l => simp [purB, purB1] at h
  | _ => exact trivial
theorem purA {S : Store} {l : List V} (h : l.all purB = true) : ∀ v ∈ l, purOK S v := fun v hv => purB_OK (List.all_eq_true.1 h v hv)
theorem viewI {n0 : Nat} {st st' : St} (ids : List (Option Nat)) (h1 : st'.so = mkFrom 0 (st'.so.map Prod.snd)) (h2 : st'.nx = (st'.so.map Prod.snd).length) (h3 : vwObs st.so ids ids (st'.so.map Prod.snd)) (h4 : nodupB ids = true)
    (h5 : firstOK 0 n0 ids) (h6 : Nat.ble n0 (st'.so.map Prod.snd).length = true) (h7 : vwSlots st.sl st.so ids st'.sl) : View n0 st st' := ⟨ids, _, h1, h2, h3, h4, h5, h6, h7⟩
def betterF (a b : Stm) : Bool := bif !((a.kind == 1) == (b.kind == 1)) then b.kind == 1 else bif a.hits != b.hits then decide (b.hits < a.hits) else decide (b.stamp < a.stamp)
def zeroF (b : Stm) : Bool := true && (b.kind == 0) && (b.start == 0) && (b.stop == 0) && (b.step == 0) && (b.hits == 0) && (b.stamp == 0)
def betterP (a b : Stm) : Bool := bif zeroF b then true else betterF a b
theorem ok40 (a b : Stm) : FnC Tryd.prog 40 [] [.agg a.c, .agg b.c] (.bool (betterF a b)) [] := by
  refine fn_okC (ob0 := []) (rc := rc40) (rvs := rv40) Tryd.func40 rfl rcq40 rvq40 (show 2 ≤ _ by decide) ?_
  generalize hk : betterF a b = q
  repeat ((conv => whnf); first | refine Cd.seq ?_ | refine Cd.cut ?_ | refine Cd.reg ?_ | refine Cd.block ?_ | refine Cd.cond ?_ | refine Cd.dreg ?_ | refine Cd.skip ?_ | refine Cd.ret ?_ | refine Cd.exit ?_ | refine Cd.loop ?_ | refine ⟨rfl, ?_⟩ | refine ⟨Nat.le_of_ble_eq_true rfl, ?_⟩ | refine ⟨.inl rfl, ?_⟩ | refine ⟨fun h => Bool.noConfusion h, ?_⟩)
  conv => whnf
  refine ⟨fun h1 => ?_, fun h1 => ?_⟩ <;> try simp only [Bool.cond_true_left, Bool.cond_false_right, Bool.not_eq_true', Bool.not_eq_false', Bool.not_not] at h1
  · repeat ((conv => whnf); first | refine Cd.seq ?_ | refine Cd.cut ?_ | refine Cd.reg ?_ | refine Cd.block ?_ | refine Cd.cond ?_ | refine Cd.dreg ?_ | refine Cd.skip ?_ | refine Cd.ret ?_ | refine Cd.exit ?_ | refine Cd.loop ?_ | refine ⟨rfl, ?_⟩ | refine ⟨Nat.le_of_ble_eq_true rfl, ?_⟩ | refine ⟨.inl rfl, ?_⟩ | refine ⟨fun h => Bool.noConfusion h, ?_⟩)
    conv => whnf
    refine ⟨[], ?_, rfl, trivial, rfl, ?_⟩
    · exact trivial
    try subst hk
    simp only [betterF, h1, cond_true, cond_false, Bool.not_true, Bool.not_false]
    repeat' (first | exact trivial | rfl | exact .inl rfl | exact .inr rfl | exact id | exact (fun h => Bool.noConfusion h) | refine And.intro ?_ ?_)
  repeat ((conv => whnf); first | refine Cd.seq ?_ | refine Cd.cut ?_ | refine Cd.reg ?_ | refine Cd.block ?_ | refine Cd.cond ?_ | refine Cd.dreg ?_ | refine Cd.skip ?_ | refine Cd.ret ?_ | refine Cd.exit ?_ | refine Cd.loop ?_ | refine ⟨rfl, ?_⟩ | refine ⟨Nat.le_of_ble_eq_true rfl, ?_⟩ | refine ⟨.inl rfl, ?_⟩ | refine ⟨fun h => Bool.noConfusion h, ?_⟩)
  conv => whnf
  refine ⟨fun h2 => ?_, fun h2 => ?_⟩ <;> try simp only [Bool.cond_true_left, Bool.cond_false_right, Bool.not_eq_true', Bool.not_eq_false', Bool.not_not] at h2
  · repeat ((conv => whnf); first | refine Cd.seq ?_ | refine Cd.cut ?_ | refine Cd.reg ?_ | refine Cd.block ?_ | refine Cd.cond ?_ | refine Cd.dreg ?_ | refine Cd.skip ?_ | refine Cd.ret ?_ | refine Cd.exit ?_ | refine Cd.loop ?_ | refine ⟨rfl, ?_⟩ | refine ⟨Nat.le_of_ble_eq_true rfl, ?_⟩ | refine ⟨.inl rfl, ?_⟩ | refine ⟨fun h => Bool.noConfusion h, ?_⟩)
    conv => whnf
    refine ⟨[], ?_, rfl, trivial, rfl, ?_⟩
    · exact trivial
    try subst hk
    simp only [betterF, h1, h2, cond_true, cond_false, Bool.not_true, Bool.not_false]
    repeat' (first | exact trivial | rfl | exact .inl rfl | exact .inr rfl | exact id | exact (fun h => Bool.noConfusion h) | refine And.intro ?_ ?_)
  repeat ((conv => whnf); first | refine Cd.seq ?_ | refine Cd.cut ?_ | refine Cd.reg ?_ | refine Cd.block ?_ | refine Cd.cond ?_ | refine Cd.dreg ?_ | refine Cd.skip ?_ | refine Cd.ret ?_ | refine Cd.exit ?_ | refine Cd.loop ?_ | refine ⟨rfl, ?_⟩ | refine ⟨Nat.le_of_ble_eq_true rfl, ?_⟩ | refine ⟨.inl rfl, ?_⟩ | refine ⟨fun h => Bool.noConfusion h, ?_⟩)
  conv => whnf
  refine ⟨[], ?_, rfl, trivial, rfl, ?_⟩
  · exact trivial
  try subst hk
  simp only [betterF, h1, h2, cond_true, cond_false, Bool.not_true, Bool.not_false]
  repeat' (first | exact trivial | rfl | exact .inl rfl | exact .inr rfl | exact id | exact (fun h => Bool.noConfusion h) | refine And.intro ?_ ?_)
theorem ok37 (a b : Stm) : FnC Tryd.prog 37 [] [.agg a.c, .agg b.c] (.bool (betterP a b)) [] := by
  refine fn_okC (ob0 := []) (rc := rc37) (rvs := rv37) Tryd.func37 rfl rcq37 rvq37 (show 2 ≤ _ by decide) ?_
  generalize hk : betterP a b = q
  repeat ((conv => whnf); first | refine Cd.seq ?_ | refine Cd.cut ?_ | refine Cd.reg ?_ | refine Cd.block ?_ | refine Cd.cond ?_ | refine Cd.dreg ?_ | refine Cd.skip ?_ | refine Cd.ret ?_ | refine Cd.exit ?_ | refine Cd.loop ?_ | refine ⟨rfl, ?_⟩ | refine ⟨Nat.le_of_ble_eq_true rfl, ?_⟩ | refine ⟨.inl rfl, ?_⟩ | refine ⟨fun h => Bool.noConfusion h, ?_⟩)
  conv => whnf
  refine ⟨fun h0 => ?_, fun h0 => ?_⟩ <;> try simp only [Bool.cond_true_left, Bool.cond_false_right, Bool.not_eq_true', Bool.not_eq_false', Bool.not_not] at h0
  · have h0 : zeroF b = true := h0
    repeat ((conv => whnf); first | refine Cd.seq ?_ | refine Cd.cut ?_ | refine Cd.reg ?_ | refine Cd.block ?_ | refine Cd.cond ?_ | refine Cd.dreg ?_ | refine Cd.skip ?_ | refine Cd.ret ?_ | refine Cd.exit ?_ | refine Cd.loop ?_ | refine ⟨rfl, ?_⟩ | refine ⟨Nat.le_of_ble_eq_true rfl, ?_⟩ | refine ⟨.inl rfl, ?_⟩ | refine ⟨fun h => Bool.noConfusion h, ?_⟩)
    conv => whnf
    refine ⟨[], ?_, rfl, trivial, rfl, ?_⟩
    · exact trivial
    try subst hk
    simp only [betterP, h0, cond_true, cond_false, Bool.not_true, Bool.not_false]
    repeat' (first | exact trivial | rfl | exact .inl rfl | exact .inr rfl | exact id | exact (fun h => Bool.noConfusion h) | refine And.intro ?_ ?_)
  have h0 : zeroF b = false := h0
  repeat ((conv => whnf); first | refine Cd.seq ?_ | refine Cd.cut ?_ | refine Cd.reg ?_ | refine Cd.block ?_ | refine Cd.cond ?_ | refine Cd.dreg ?_ | refine Cd.skip ?_ | refine Cd.ret ?_ | refine Cd.exit ?_ | refine Cd.loop ?_ | refine ⟨rfl, ?_⟩ | refine ⟨Nat.le_of_ble_eq_true rfl, ?_⟩ | refine ⟨.inl rfl, ?_⟩ | refine ⟨fun h => Bool.noConfusion h, ?_⟩)
  conv => whnf
  refine ⟨fun h1 => ?_, fun h1 => ?_⟩ <;> try simp only [Bool.cond_true_left, Bool.cond_false_right, Bool.not_eq_true', Bool.not_eq_false', Bool.not_not] at h1
  · repeat ((conv => whnf); first | refine Cd.seq ?_ | refine Cd.cut ?_ | refine Cd.reg ?_ | refine Cd.block ?_ | refine Cd.cond ?_ | refine Cd.dreg ?_ | refine Cd.skip ?_ | refine Cd.ret ?_ | refine Cd.exit ?_ | refine Cd.loop ?_ | refine ⟨rfl, ?_⟩ | refine ⟨Nat.le_of_ble_eq_true rfl, ?_⟩ | refine ⟨.inl rfl, ?_⟩ | refine ⟨fun h => Bool.noConfusion h, ?_⟩)
    conv => whnf
    refine ⟨[], ?_, rfl, trivial, rfl, ?_⟩
    · exact trivial
    try subst hk
    simp only [betterP, h0, betterF, h1, cond_true, cond_false, Bool.not_true, Bool.not_false]
    repeat' (first | exact trivial | rfl | exact .inl rfl | exact .inr rfl | exact id | exact (fun h => Bool.noConfusion h) | refine And.intro ?_ ?_)
  repeat ((conv => whnf); first | refine Cd.seq ?_ | refine Cd.cut ?_ | refine Cd.reg ?_ | refine Cd.block ?_ | refine Cd.cond ?_ | refine Cd.dreg ?_ | refine Cd.skip ?_ | refine Cd.ret ?_ | refine Cd.exit ?_ | refine Cd.loop ?_ | refine ⟨rfl, ?_⟩ | refine ⟨Nat.le_of_ble_eq_true rfl, ?_⟩ | refine ⟨.inl rfl, ?_⟩ | refine ⟨fun h => Bool.noConfusion h, ?_⟩)
  conv => whnf
  refine ⟨fun h2 => ?_, fun h2 => ?_⟩ <;> try simp only [Bool.cond_true_left, Bool.cond_false_right, Bool.not_eq_true', Bool.not_eq_false', Bool.not_not] at h2
  · repeat ((conv => whnf); first | refine Cd.seq ?_ | refine Cd.cut ?_ | refine Cd.reg ?_ | refine Cd.block ?_ | refine Cd.cond ?_ | refine Cd.dreg ?_ | refine Cd.skip ?_ | refine Cd.ret ?_ | refine Cd.exit ?_ | refine Cd.loop ?_ | refine ⟨rfl, ?_⟩ | refine ⟨Nat.le_of_ble_eq_true rfl, ?_⟩ | refine ⟨.inl rfl, ?_⟩ | refine ⟨fun h => Bool.noConfusion h, ?_⟩)
    conv => whnf
    refine ⟨[], ?_, rfl, trivial, rfl, ?_⟩
    · exact trivial
    try subst hk
    simp only [betterP, h0, betterF, h1, h2, cond_true, cond_false, Bool.not_true, Bool.not_false]
    repeat' (first | exact trivial | rfl | exact .inl rfl | exact .inr rfl | exact id | exact (fun h => Bool.noConfusion h) | refine And.intro ?_ ?_)
  repeat ((conv => whnf); first | refine Cd.seq ?_ | refine Cd.cut ?_ | refine Cd.reg ?_ | refine Cd.block ?_ | refine Cd.cond ?_ | refine Cd.dreg ?_ | refine Cd.skip ?_ | refine Cd.ret ?_ | refine Cd.exit ?_ | refine Cd.loop ?_ | refine ⟨rfl, ?_⟩ | refine ⟨Nat.le_of_ble_eq_true rfl, ?_⟩ | refine ⟨.inl rfl, ?_⟩ | refine ⟨fun h => Bool.noConfusion h, ?_⟩)
  conv => whnf
  refine ⟨[], ?_, rfl, trivial, rfl, ?_⟩
  · exact trivial
  try subst hk
  simp only [betterP, h0, betterF, h1, h2, cond_true, cond_false, Bool.not_true, Bool.not_false]
  repeat' (first | exact trivial | rfl | exact .inl rfl | exact .inr rfl | exact id | exact (fun h => Bool.noConfusion h) | refine And.intro ?_ ?_)

def matchesF (s : Stm) (a b : Int) : Stm × Bool :=
  bif !rightF s || !validF a b then (s, false)
  else bif !(kindF s a b).2 then (s, bif decide (s.start ≤ a) then decide (b ≤ s.stop) else false)
  else bif (kindF s a b).1 == 4 then (⟨(kindF s a b).1, a, b, IntKind.i64.wrap (a - s.start), min (IntKind.i64.wrap (s.hits + 1)) 1000000, s.stamp⟩, true)
  else (⟨(kindF s a b).1, a, b, 0, min (IntKind.i64.wrap (s.hits + 1)) 1000000, s.stamp⟩, true)
theorem ok36 (s : Stm) (a b : Int) : FnC Tryd.prog 36 [] [.agg s.c, .int .i64 a, .int .i64 b] (.tup [.agg (matchesF s a b).1.c, .bool (matchesF s a b).2]) [] := by
  refine fn_okC (ob0 := []) (rc := rc36) (rvs := rv36) Tryd.func36 rfl rcq36 rvq36 (show 3 ≤ _ by decide) ?_
  generalize hk : matchesF s a b = q
  repeat ((conv => whnf); first | refine Cd.seq ?_ | refine Cd.cut ?_ | refine Cd.reg ?_ | refine Cd.block ?_ | refine Cd.cond ?_ | refine Cd.dreg ?_ | refine Cd.skip ?_ | refine Cd.ret ?_ | refine Cd.exit ?_ | refine Cd.loop ?_ | refine ⟨rfl, ?_⟩ | refine ⟨Nat.le_of_ble_eq_true rfl, ?_⟩ | refine ⟨.inl rfl, ?_⟩ | refine ⟨fun h => Bool.noConfusion h, ?_⟩ | refine .inl ⟨_, fun _ => ⟨purA rfl, (by first | exact ok34 s | exact ok35 a b | exact ok46 s a b)⟩, .inl rfl, ?_⟩)
  conv => whnf
  refine ⟨fun h1 => ?_, fun h1 => ?_⟩ <;> try simp only [Bool.cond_true_left, Bool.cond_false_right, Bool.not_eq_true', Bool.not_eq_false', Bool.not_not] at h1
  · repeat ((conv => whnf); first | refine Cd.seq ?_ | refine Cd.cut ?_ | refine Cd.reg ?_ | refine Cd.block ?_ | refine Cd.cond ?_ | refine Cd.dreg ?_ | refine Cd.skip ?_ | refine Cd.ret ?_ | refine Cd.exit ?_ | refine Cd.loop ?_ | refine ⟨rfl, ?_⟩ | refine ⟨Nat.le_of_ble_eq_true rfl, ?_⟩ | refine ⟨.inl rfl, ?_⟩ | refine ⟨fun h => Bool.noConfusion h, ?_⟩)
    conv => whnf
    refine ⟨[], ?_, rfl, trivial, rfl, ?_⟩
    · exact trivial
    try subst hk
    simp only [matchesF, h1, cond_true, cond_false, Bool.not_true, Bool.not_false]
    repeat' (first | exact trivial | rfl | exact .inl rfl | exact .inr rfl | exact id | exact (fun h => Bool.noConfusion h) | refine And.intro ?_ ?_)
  repeat ((conv => whnf); first | refine Cd.seq ?_ | refine Cd.cut ?_ | refine Cd.reg ?_ | refine Cd.block ?_ | refine Cd.cond ?_ | refine Cd.dreg ?_ | refine Cd.skip ?_ | refine Cd.ret ?_ | refine Cd.exit ?_ | refine Cd.loop ?_ | refine ⟨rfl, ?_⟩ | refine ⟨Nat.le_of_ble_eq_true rfl, ?_⟩ | refine ⟨.inl rfl, ?_⟩ | refine ⟨fun h => Bool.noConfusion h, ?_⟩ | refine .inl ⟨_, fun _ => ⟨purA rfl, (by first | exact ok34 s | exact ok35 a b | exact ok46 s a b)⟩, .inl rfl, ?_⟩)
  conv => whnf
  refine ⟨fun h2 => ?_, fun h2 => ?_⟩ <;> try simp only [Bool.cond_true_left, Bool.cond_false_right, Bool.not_eq_true', Bool.not_eq_false', Bool.not_not] at h2
  · repeat ((conv => whnf); first | refine Cd.seq ?_ | refine Cd.cut ?_ | refine Cd.reg ?_ | refine Cd.block ?_ | refine Cd.cond ?_ | refine Cd.dreg ?_ | refine Cd.skip ?_ | refine Cd.ret ?_ | refine Cd.exit ?_ | refine Cd.loop ?_ | refine ⟨rfl, ?_⟩ | refine ⟨Nat.le_of_ble_eq_true rfl, ?_⟩ | refine ⟨.inl rfl, ?_⟩ | refine ⟨fun h => Bool.noConfusion h, ?_⟩)
    conv => whnf
    refine ⟨[], ?_, rfl, trivial, rfl, ?_⟩
    · exact trivial
    try subst hk
    simp only [matchesF, h1, h2, cond_true, cond_false, Bool.not_true, Bool.not_false]
    repeat' (first | exact trivial | rfl | exact .inl rfl | exact .inr rfl | exact id | exact (fun h => Bool.noConfusion h) | refine And.intro ?_ ?_)
  repeat ((conv => whnf); first | refine Cd.seq ?_ | refine Cd.cut ?_ | refine Cd.reg ?_ | refine Cd.block ?_ | refine Cd.cond ?_ | refine Cd.dreg ?_ | refine Cd.skip ?_ | refine Cd.ret ?_ | refine Cd.exit ?_ | refine Cd.loop ?_ | refine ⟨rfl, ?_⟩ | refine ⟨Nat.le_of_ble_eq_true rfl, ?_⟩ | refine ⟨.inl rfl, ?_⟩ | refine ⟨fun h => Bool.noConfusion h, ?_⟩)
  conv => whnf
  refine ⟨fun h3 => ?_, fun h3 => ?_⟩ <;> try simp only [Bool.cond_true_left, Bool.cond_false_right, Bool.not_eq_true', Bool.not_eq_false', Bool.not_not] at h3
  · repeat ((conv => whnf); first | refine Cd.seq ?_ | refine Cd.cut ?_ | refine Cd.reg ?_ | refine Cd.block ?_ | refine Cd.cond ?_ | refine Cd.dreg ?_ | refine Cd.skip ?_ | refine Cd.ret ?_ | refine Cd.exit ?_ | refine Cd.loop ?_ | refine ⟨rfl, ?_⟩ | refine ⟨Nat.le_of_ble_eq_true rfl, ?_⟩ | refine ⟨.inl rfl, ?_⟩ | refine ⟨fun h => Bool.noConfusion h, ?_⟩)
    conv => whnf
    refine ⟨[], ?_, rfl, trivial, rfl, ?_⟩
    · exact trivial
    try subst hk
    simp only [matchesF, h1, h2, h3, cond_true, cond_false, Bool.not_true, Bool.not_false]
    repeat' (first | exact trivial | rfl | exact .inl rfl | exact .inr rfl | exact id | exact (fun h => Bool.noConfusion h) | refine And.intro ?_ ?_)
  repeat ((conv => whnf); first | refine Cd.seq ?_ | refine Cd.cut ?_ | refine Cd.reg ?_ | refine Cd.block ?_ | refine Cd.cond ?_ | refine Cd.dreg ?_ | refine Cd.skip ?_ | refine Cd.ret ?_ | refine Cd.exit ?_ | refine Cd.loop ?_ | refine ⟨rfl, ?_⟩ | refine ⟨Nat.le_of_ble_eq_true rfl, ?_⟩ | refine ⟨.inl rfl, ?_⟩ | refine ⟨fun h => Bool.noConfusion h, ?_⟩)
  conv => whnf
  refine ⟨[], ?_, rfl, trivial, rfl, ?_⟩
  · exact trivial
  try subst hk
  simp only [matchesF, h1, h2, h3, cond_true, cond_false, Bool.not_true, Bool.not_false]
  repeat' (first | exact trivial | rfl | exact .inl rfl | exact .inr rfl | exact id | exact (fun h => Bool.noConfusion h) | refine And.intro ?_ ?_)

def kr1 (s : Stm) (a b : Int) : Bool := ((s.kind == 1 || s.kind == 2) && (a == s.stop || a == IntKind.i64.wrap (s.stop - 1))) && decide (s.stop < b)
def kr2 (s : Stm) (a b : Int) : Bool := ((s.kind == 1 || s.kind == 3) && (b == s.start || b == IntKind.i64.wrap (s.start + 1))) && decide (a < s.start)
def byR (s : Stm) (a : Int) : Int := IntKind.i64.wrap (a - s.start)
def stridedR (s : Stm) (a : Int) : Bool := (s.kind == 4 && byR s a == s.step) || ((s.kind == 1 && strideF (byR s a)) && decide (IntKind.i64.wrap (s.stop - s.start) ≤ sizeF (byR s a)))
def hitsR (s : Stm) : Int := min (IntKind.i64.wrap (s.hits + 1)) 1000000
def matchesR (s : Stm) (a b : Int) : Stm × Bool :=
  bif !rightF s || !validF a b then (s, false)
  else bif kr1 s a b then (⟨2, a, b, 0, hitsR s, s.stamp⟩, true)
  else bif kr2 s a b then (⟨3, a, b, 0, hitsR s, s.stamp⟩, true)
  else bif stridedR s a && decide (IntKind.i64.wrap (b - a) ≤ sizeF (byR s a)) then (⟨4, a, b, byR s a, hitsR s, s.stamp⟩, true)
  else bif decide (s.start ≤ a) && decide (b ≤ s.stop) then (s, true)
  else (s, false)
set_option maxRecDepth 20000 in
theorem ok39R (s : Stm) (a b : Int) : FnC Tryd.prog 39 [] [.agg s.c, .int .i64 a, .int .i64 b] (.tup [.agg (matchesR s a b).1.c, .bool (matchesR s a b).2]) [] := by
  refine fn_okC (ob0 := []) (rc := rc39) (rvs := rv39) Tryd.func39 rfl rcq39 rvq39 (show 3 ≤ _ by decide) ?_
  generalize hk : matchesR s a b = q
  repeat ((conv => whnf); first | refine Cd.seq ?_ | refine Cd.cut ?_ | refine Cd.reg ?_ | refine Cd.block ?_ | refine Cd.cond ?_ | refine Cd.dreg ?_ | refine Cd.skip ?_ | refine Cd.ret ?_ | refine Cd.exit ?_ | refine Cd.loop ?_ | refine ⟨rfl, ?_⟩ | refine ⟨Nat.le_of_ble_eq_true rfl, ?_⟩ | refine ⟨.inl rfl, ?_⟩ | refine ⟨fun h => Bool.noConfusion h, ?_⟩ | refine .inl ⟨_, fun _ => ⟨purA rfl, (by first | exact ok29 s | exact ok30 a b | exact ok43 _)⟩, .inl rfl, ?_⟩)
  conv => whnf
  refine ⟨fun h1 => ?_, fun h1 => ?_⟩ <;> try simp only [Bool.cond_true_left, Bool.cond_false_right, Bool.not_eq_true', Bool.not_eq_false', Bool.not_not] at h1
  · repeat ((conv => whnf); first | refine Cd.seq ?_ | refine Cd.cut ?_ | refine Cd.reg ?_ | refine Cd.block ?_ | refine Cd.cond ?_ | refine Cd.dreg ?_ | refine Cd.skip ?_ | refine Cd.ret ?_ | refine Cd.exit ?_ | refine Cd.loop ?_ | refine ⟨rfl, ?_⟩ | refine ⟨Nat.le_of_ble_eq_true rfl, ?_⟩ | refine ⟨.inl rfl, ?_⟩ | refine ⟨fun h => Bool.noConfusion h, ?_⟩)
    conv => whnf
    refine ⟨[], ?_, rfl, trivial, rfl, ?_⟩
    · exact trivial
    try subst hk
    simp only [matchesR, h1, cond_true, cond_false, Bool.not_true, Bool.not_false]
    repeat' (first | exact trivial | rfl | exact .inl rfl | exact .inr rfl | exact id | exact (fun h => Bool.noConfusion h) | refine And.intro ?_ ?_)
  repeat ((conv => whnf); first | refine Cd.seq ?_ | refine Cd.cut ?_ | refine Cd.reg ?_ | refine Cd.block ?_ | refine Cd.cond ?_ | refine Cd.dreg ?_ | refine Cd.skip ?_ | refine Cd.ret ?_ | refine Cd.exit ?_ | refine Cd.loop ?_ | refine ⟨rfl, ?_⟩ | refine ⟨Nat.le_of_ble_eq_true rfl, ?_⟩ | refine ⟨.inl rfl, ?_⟩ | refine ⟨fun h => Bool.noConfusion h, ?_⟩ | refine .inl ⟨_, fun _ => ⟨purA rfl, (by first | exact ok29 s | exact ok30 a b | exact ok43 _)⟩, .inl rfl, ?_⟩)
  conv => whnf
  refine ⟨fun h2 => ?_, fun h2 => ?_⟩ <;> try simp only [Bool.cond_true_left, Bool.cond_false_right, Bool.not_eq_true', Bool.not_eq_false', Bool.not_not] at h2
  · have h2 : kr1 s a b = true := h2
    repeat ((conv => whnf); first | refine Cd.seq ?_ | refine Cd.cut ?_ | refine Cd.reg ?_ | refine Cd.block ?_ | refine Cd.cond ?_ | refine Cd.dreg ?_ | refine Cd.skip ?_ | refine Cd.ret ?_ | refine Cd.exit ?_ | refine Cd.loop ?_ | refine ⟨rfl, ?_⟩ | refine ⟨Nat.le_of_ble_eq_true rfl, ?_⟩ | refine ⟨.inl rfl, ?_⟩ | refine ⟨fun h => Bool.noConfusion h, ?_⟩)
    conv => whnf
    refine ⟨[], ?_, rfl, trivial, rfl, ?_⟩
    · exact trivial
    try subst hk
    simp only [matchesR, h1, h2, cond_true, cond_false, Bool.not_true, Bool.not_false]
    repeat' (first | exact trivial | rfl | exact .inl rfl | exact .inr rfl | exact id | exact (fun h => Bool.noConfusion h) | refine And.intro ?_ ?_)
  have h2 : kr1 s a b = false := h2
  repeat ((conv => whnf); first | refine Cd.seq ?_ | refine Cd.cut ?_ | refine Cd.reg ?_ | refine Cd.block ?_ | refine Cd.cond ?_ | refine Cd.dreg ?_ | refine Cd.skip ?_ | refine Cd.ret ?_ | refine Cd.exit ?_ | refine Cd.loop ?_ | refine ⟨rfl, ?_⟩ | refine ⟨Nat.le_of_ble_eq_true rfl, ?_⟩ | refine ⟨.inl rfl, ?_⟩ | refine ⟨fun h => Bool.noConfusion h, ?_⟩)
  conv => whnf
  refine ⟨fun h3 => ?_, fun h3 => ?_⟩ <;> try simp only [Bool.cond_true_left, Bool.cond_false_right, Bool.not_eq_true', Bool.not_eq_false', Bool.not_not] at h3
  · have h3 : kr2 s a b = true := h3
    repeat ((conv => whnf); first | refine Cd.seq ?_ | refine Cd.cut ?_ | refine Cd.reg ?_ | refine Cd.block ?_ | refine Cd.cond ?_ | refine Cd.dreg ?_ | refine Cd.skip ?_ | refine Cd.ret ?_ | refine Cd.exit ?_ | refine Cd.loop ?_ | refine ⟨rfl, ?_⟩ | refine ⟨Nat.le_of_ble_eq_true rfl, ?_⟩ | refine ⟨.inl rfl, ?_⟩ | refine ⟨fun h => Bool.noConfusion h, ?_⟩)
    conv => whnf
    refine ⟨[], ?_, rfl, trivial, rfl, ?_⟩
    · exact trivial
    try subst hk
    simp only [matchesR, h1, h2, h3, cond_true, cond_false, Bool.not_true, Bool.not_false]
    repeat' (first | exact trivial | rfl | exact .inl rfl | exact .inr rfl | exact id | exact (fun h => Bool.noConfusion h) | refine And.intro ?_ ?_)
  have h3 : kr2 s a b = false := h3
  repeat ((conv => whnf); first | refine Cd.seq ?_ | refine Cd.cut ?_ | refine Cd.reg ?_ | refine Cd.block ?_ | refine Cd.cond ?_ | refine Cd.dreg ?_ | refine Cd.skip ?_ | refine Cd.ret ?_ | refine Cd.exit ?_ | refine Cd.loop ?_ | refine ⟨rfl, ?_⟩ | refine ⟨Nat.le_of_ble_eq_true rfl, ?_⟩ | refine ⟨.inl rfl, ?_⟩ | refine ⟨fun h => Bool.noConfusion h, ?_⟩)
  conv => whnf
  refine ⟨fun h4 => ?_, fun h4 => ?_⟩ <;> try simp only [Bool.cond_true_left, Bool.cond_false_right, Bool.not_eq_true', Bool.not_eq_false', Bool.not_not] at h4
  · have h4 : (stridedR s a && decide (IntKind.i64.wrap (b - a) ≤ sizeF (byR s a))) = true := h4
    repeat ((conv => whnf); first | refine Cd.seq ?_ | refine Cd.cut ?_ | refine Cd.reg ?_ | refine Cd.block ?_ | refine Cd.cond ?_ | refine Cd.dreg ?_ | refine Cd.skip ?_ | refine Cd.ret ?_ | refine Cd.exit ?_ | refine Cd.loop ?_ | refine ⟨rfl, ?_⟩ | refine ⟨Nat.le_of_ble_eq_true rfl, ?_⟩ | refine ⟨.inl rfl, ?_⟩ | refine ⟨fun h => Bool.noConfusion h, ?_⟩)
    conv => whnf
    refine ⟨[], ?_, rfl, trivial, rfl, ?_⟩
    · exact trivial
    try subst hk
    simp only [matchesR, h1, h2, h3, h4, cond_true, cond_false, Bool.not_true, Bool.not_false]
    repeat' (first | exact trivial | rfl | exact .inl rfl | exact .inr rfl | exact id | exact (fun h => Bool.noConfusion h) | refine And.intro ?_ ?_)
  have h4 : (stridedR s a && decide (IntKind.i64.wrap (b - a) ≤ sizeF (byR s a))) = false := h4
  repeat ((conv => whnf); first | refine Cd.seq ?_ | refine Cd.cut ?_ | refine Cd.reg ?_ | refine Cd.block ?_ | refine Cd.cond ?_ | refine Cd.dreg ?_ | refine Cd.skip ?_ | refine Cd.ret ?_ | refine Cd.exit ?_ | refine Cd.loop ?_ | refine ⟨rfl, ?_⟩ | refine ⟨Nat.le_of_ble_eq_true rfl, ?_⟩ | refine ⟨.inl rfl, ?_⟩ | refine ⟨fun h => Bool.noConfusion h, ?_⟩)
  conv => whnf
  refine ⟨fun h5 => ?_, fun h5 => ?_⟩ <;> try simp only [Bool.cond_true_left, Bool.cond_false_right, Bool.not_eq_true', Bool.not_eq_false', Bool.not_not] at h5
  · repeat ((conv => whnf); first | refine Cd.seq ?_ | refine Cd.cut ?_ | refine Cd.reg ?_ | refine Cd.block ?_ | refine Cd.cond ?_ | refine Cd.dreg ?_ | refine Cd.skip ?_ | refine Cd.ret ?_ | refine Cd.exit ?_ | refine Cd.loop ?_ | refine ⟨rfl, ?_⟩ | refine ⟨Nat.le_of_ble_eq_true rfl, ?_⟩ | refine ⟨.inl rfl, ?_⟩ | refine ⟨fun h => Bool.noConfusion h, ?_⟩)
    conv => whnf
    refine ⟨[], ?_, rfl, trivial, rfl, ?_⟩
    · exact trivial
    try subst hk
    simp only [matchesR, h1, h2, h3, h4, h5, cond_true, cond_false, Bool.not_true, Bool.not_false]
    repeat' (first | exact trivial | rfl | exact .inl rfl | exact .inr rfl | exact id | exact (fun h => Bool.noConfusion h) | refine And.intro ?_ ?_)
  repeat ((conv => whnf); first | refine Cd.seq ?_ | refine Cd.cut ?_ | refine Cd.reg ?_ | refine Cd.block ?_ | refine Cd.cond ?_ | refine Cd.dreg ?_ | refine Cd.skip ?_ | refine Cd.ret ?_ | refine Cd.exit ?_ | refine Cd.loop ?_ | refine ⟨rfl, ?_⟩ | refine ⟨Nat.le_of_ble_eq_true rfl, ?_⟩ | refine ⟨.inl rfl, ?_⟩ | refine ⟨fun h => Bool.noConfusion h, ?_⟩)
  conv => whnf
  refine ⟨[], ?_, rfl, trivial, rfl, ?_⟩
  · exact trivial
  try subst hk
  simp only [matchesR, h1, h2, h3, h4, h5, cond_true, cond_false, Bool.not_true, Bool.not_false]
  repeat' (first | exact trivial | rfl | exact .inl rfl | exact .inr rfl | exact id | exact (fun h => Bool.noConfusion h) | refine And.intro ?_ ?_)
end Go.Proofs.YteelckbeekgfiaaDoor
