/- Zone: the law ZoneReserve, as a contract. -/
import Derived.Test.YtcifhjkodbaghaaB22
set_option linter.unusedSimpArgs false
set_option linter.unusedVariables false
namespace Go.Proofs.Ytcifhjkodbaghaa
open Go Go.Sk Go.RowKit

/- pagecache/pagecachelaw10.ZoneReserve -/
def rc6 : RC :=
  (.seq
  (.reg [⟨(some 2), none, (.mv (.c (.bool false)))⟩] [])
  (.seq
  (.reg [⟨(some 10), none, (.mv (.t 0))⟩,
    ⟨(some 11), none, (.build [(.lst 0 true []), (.int .i64 0)] [(0, (1, (.t 10)))])⟩,
    ⟨(some 12), none, (.box (.t 11))⟩,
    ⟨(some 3), none, (.mv (.t 12))⟩] [10, 11, 12])
  (.seq
  (.regc [⟨(some 14), none, (.mv (.t 3))⟩,
    ⟨(some 15), none, (.call 16 [(.t 14), (.c (.int .i64 10))])⟩,
    ⟨(some 16), none, (.bin .add (.c (.int .i64 8)) (.t 15))⟩,
    ⟨(some 17), none, (.mv (.t 3))⟩,
    ⟨(some 18), none, (.call 16 [(.t 17), (.c (.int .i64 10))])⟩,
    ⟨(some 19), none, (.bin .add (.c (.int .i64 8)) (.t 18))⟩,
    ⟨(some 20), none, (.bslice 1 [(.int .i64 0)] 2 [(0, (.t 16)), (1, (.t 19))])⟩] [⟨(some 21), none, (.call 32 [(.t 20)])⟩,
    ⟨(some 13), none, (.mv (.t 21))⟩,
    ⟨(some 22), none, (.extr 0 (.t 13))⟩,
    ⟨(some 23), none, (.extr 1 (.t 13))⟩,
    ⟨(some 4), none, (.mv (.t 22))⟩,
    ⟨(some 5), none, (.mv (.t 23))⟩] [14, 15, 16, 17, 18, 19, 20, 21, 13, 22, 23])
  (.seq
  (.seq
  (.reg [⟨(some 24), none, (.mv (.t 5))⟩,
    ⟨(some 25), none, (.bin .neq (.t 24) (.c (.int .i64 0)))⟩,
    ⟨(some 26), none, (.mv (.t 25))⟩,
    ⟨(some 27), (some (26, false)), (.mv (.t 4))⟩,
    ⟨(some 28), (some (26, false)), (.len (.t 27))⟩,
    ⟨(some 29), (some (26, false)), (.bin .neq (.t 28) (.c (.int .i64 2)))⟩,
    ⟨(some 30), none, (.pick (.t 26) (.c (.bool true)) (.t 29))⟩] [24, 25, 26, 27, 28, 29])
  (.cond (.t 30)
   (.seq
   (.reg [⟨(some 2), none, (.mv (.c (.bool false)))⟩] [])
   .ret)
   .skip))
  (.seq
  (.reg [⟨(some 6), none, (.mv (.c (.int .i64 0)))⟩] [])
  (.seq
  (.block 0
   (.loop
    (.seq
    (.seq
    (.reg [⟨(some 31), none, (.mv (.t 6))⟩,
      ⟨(some 32), none, (.bin .lss (.t 31) (.c (.int .i64 64)))⟩] [31])
    (.cond (.t 32)
     .skip
     (.exit 0)))
    (.seq
    (.block 1
     (.seq
     (.reg [⟨(some 36), none, (.mv (.t 4))⟩,
       ⟨(some 37), none, (.call 18 [(.t 36), (.c (.int .i64 1)), (.c (.bool false))])⟩,
       ⟨(some 35), none, (.mv (.t 37))⟩,
       ⟨(some 38), none, (.extr 0 (.t 35))⟩,
       ⟨(some 39), none, (.extr 1 (.t 35))⟩,
       ⟨(some 40), none, (.extr 2 (.t 35))⟩,
       ⟨(some 7), none, (.mv (.t 38))⟩,
       ⟨(some 8), none, (.mv (.t 39))⟩,
       ⟨(some 9), none, (.mv (.t 40))⟩] [36, 37, 35, 38, 39, 40, 8])
     (.seq
     (.seq
     (.reg [⟨(some 41), none, (.mv (.t 9))⟩,
       ⟨(some 42), none, (.bin .neq (.t 41) (.c (.int .i64 0)))⟩] [41])
     (.cond (.t 42)
      (.exit 0)
      .skip))
     (.reg [⟨(some 43), none, (.mv (.t 7))⟩,
       ⟨(some 4), none, (.mv (.t 43))⟩] [43]))))
    (.reg [⟨(some 33), none, (.mv (.t 6))⟩,
      ⟨(some 34), none, (.bin .add (.t 33) (.c (.int .i64 1)))⟩,
      ⟨(some 6), none, (.mv (.t 34))⟩] [33, 34])))))
  (.seq
  (.dreg 12288 13184 [⟨(some 44), none, (.mv (.t 6))⟩,
    ⟨(some 45), none, (.mv (.t 4))⟩,
    ⟨(some 46), none, (.iaddr 6 (.t 45) (.c (.int .i64 0)))⟩,
    ⟨(some 47), none, (.faddr 1 (.t 46))⟩,
    ⟨(some 48), none, (.ld false 1 (.t 47))⟩,
    ⟨(some 49), none, (.mv (.t 4))⟩,
    ⟨(some 50), none, (.iaddr 6 (.t 49) (.c (.int .i64 0)))⟩,
    ⟨(some 51), none, (.faddr 2 (.t 50))⟩,
    ⟨(some 52), none, (.ld false 1 (.t 51))⟩,
    ⟨(some 53), none, (.bin .sub (.t 48) (.t 52))⟩,
    ⟨(some 54), none, (.mv (.t 4))⟩,
    ⟨(some 55), none, (.iaddr 6 (.t 54) (.c (.int .i64 1)))⟩,
    ⟨(some 56), none, (.faddr 1 (.t 55))⟩,
    ⟨(some 57), none, (.ld false 1 (.t 56))⟩,
    ⟨(some 58), none, (.bin .add (.t 53) (.t 57))⟩,
    ⟨(some 59), none, (.mv (.t 4))⟩,
    ⟨(some 60), none, (.iaddr 6 (.t 59) (.c (.int .i64 1)))⟩,
    ⟨(some 61), none, (.faddr 2 (.t 60))⟩,
    ⟨(some 62), none, (.ld false 1 (.t 61))⟩,
    ⟨(some 63), none, (.bin .sub (.t 58) (.t 62))⟩,
    ⟨(some 64), none, (.bin .eql (.t 44) (.t 63))⟩,
    ⟨(some 65), none, (.mv (.t 64))⟩,
    ⟨(some 66), (some (65, true)), (.mv (.t 4))⟩,
    ⟨(some 67), (some (65, true)), (.iaddr 6 (.t 66) (.c (.int .i64 0)))⟩,
    ⟨(some 68), (some (65, true)), (.faddr 5 (.t 67))⟩,
    ⟨(some 69), (some (65, true)), (.ld false 1 (.t 68))⟩,
    ⟨(some 70), (some (65, true)), (.len (.t 69))⟩,
    ⟨(some 71), (some (65, true)), (.mv (.t 4))⟩,
    ⟨(some 72), (some (65, true)), (.iaddr 6 (.t 71) (.c (.int .i64 0)))⟩,
    ⟨(some 73), (some (65, true)), (.faddr 2 (.t 72))⟩,
    ⟨(some 74), (some (65, true)), (.ld false 1 (.t 73))⟩,
    ⟨(some 75), (some (65, true)), (.bin .eql (.t 70) (.t 74))⟩,
    ⟨(some 76), none, (.pick (.t 65) (.t 75) (.c (.bool false)))⟩,
    ⟨(some 77), none, (.mv (.t 76))⟩,
    ⟨(some 78), (some (77, true)), (.mv (.t 4))⟩,
    ⟨(some 79), (some (77, true)), (.iaddr 6 (.t 78) (.c (.int .i64 1)))⟩,
    ⟨(some 80), (some (77, true)), (.faddr 5 (.t 79))⟩,
    ⟨(some 81), (some (77, true)), (.ld false 1 (.t 80))⟩,
    ⟨(some 82), (some (77, true)), (.len (.t 81))⟩,
    ⟨(some 83), (some (77, true)), (.mv (.t 4))⟩,
    ⟨(some 84), (some (77, true)), (.iaddr 6 (.t 83) (.c (.int .i64 1)))⟩,
    ⟨(some 85), (some (77, true)), (.faddr 2 (.t 84))⟩,
    ⟨(some 86), (some (77, true)), (.ld false 1 (.t 85))⟩,
    ⟨(some 87), (some (77, true)), (.bin .eql (.t 82) (.t 86))⟩,
    ⟨(some 88), none, (.pick (.t 77) (.t 87) (.c (.bool false)))⟩,
    ⟨(some 89), none, (.mv (.t 88))⟩,
    ⟨(some 90), (some (89, true)), (.mv (.t 4))⟩,
    ⟨(some 91), (some (89, true)), (.iaddr 6 (.t 90) (.c (.int .i64 0)))⟩,
    ⟨(some 92), (some (89, true)), (.faddr 2 (.t 91))⟩,
    ⟨(some 93), (some (89, true)), (.ld false 1 (.t 92))⟩,
    ⟨(some 94), (some (89, true)), (.bin .gtr (.t 93) (.c (.int .i64 0)))⟩,
    ⟨(some 95), none, (.pick (.t 89) (.t 94) (.c (.bool false)))⟩,
    ⟨(some 96), none, (.mv (.t 95))⟩,
    ⟨(some 97), (some (96, true)), (.call 31 [])⟩,
    ⟨(some 98), none, (.pick (.t 96) (.t 97) (.c (.bool false)))⟩,
    ⟨(some 2), none, (.mv (.t 98))⟩] [44, 45, 46, 47, 48, 49, 50, 51, 52, 53, 54, 55, 56, 57, 58, 59, 60, 61, 62, 63, 64, 65, 66, 67, 68, 69, 70, 71, 72, 73, 74, 75, 76, 77, 78, 79, 80, 81, 82, 83, 84, 85, 86, 87, 88, 89, 90, 91, 92, 93, 94, 95, 96, 97, 98] [[], [], [1], [2, 1], [3, 1, 2], [], [5], [6, 5], [7, 5, 6], [4, 2, 1, 3, 8, 6, 5, 7], [], [10], [11, 10], [12, 10, 11], [9, 7, 5, 6, 8, 3, 1, 2, 4, 13, 11, 10, 12], [], [15], [16, 15], [17, 15, 16], [14, 12, 10, 11, 13, 4, 2, 1, 3, 8, 6, 5, 7, 9, 18, 16, 15, 17], [0, 19, 17, 15, 16, 18, 9, 7, 5, 6, 8, 3, 1, 2, 4, 13, 11, 10, 12, 14], [20, 14, 12, 10, 11, 13, 4, 2, 1, 3, 8, 6, 5, 7, 9, 18, 16, 15, 17, 19, 0], [21, 0, 19, 17, 15, 16, 18, 9, 7, 5, 6, 8, 3, 1, 2, 4, 13, 11, 10, 12, 14, 20], [22, 21, 0, 19, 17, 15, 16, 18, 9, 7, 5, 6, 8, 3, 1, 2, 4, 13, 11, 10, 12, 14, 20], [23, 22, 21, 0, 19, 17, 15, 16, 18, 9, 7, 5, 6, 8, 3, 1, 2, 4, 13, 11, 10, 12, 14, 20], [24, 22, 23, 21, 0, 19, 17, 15, 16, 18, 9, 7, 5, 6, 8, 3, 1, 2, 4, 13, 11, 10, 12, 14, 20], [25, 23, 22, 24, 21, 0, 19, 17, 15, 16, 18, 9, 7, 5, 6, 8, 3, 1, 2, 4, 13, 11, 10, 12, 14, 20], [21, 0, 19, 17, 15, 16, 18, 9, 7, 5, 6, 8, 3, 1, 2, 4, 13, 11, 10, 12, 14, 20], [27, 21, 0, 19, 17, 15, 16, 18, 9, 7, 5, 6, 8, 3, 1, 2, 4, 13, 11, 10, 12, 14, 20], [28, 27, 21, 0, 19, 17, 15, 16, 18, 9, 7, 5, 6, 8, 3, 1, 2, 4, 13, 11, 10, 12, 14, 20], [29, 27, 28, 21, 0, 19, 17, 15, 16, 18, 9, 7, 5, 6, 8, 3, 1, 2, 4, 13, 11, 10, 12, 14, 20], [26, 24, 22, 23, 25, 30, 28, 27, 29, 21, 0, 19, 17, 15, 16, 18, 9, 7, 5, 6, 8, 3, 1, 2, 4, 13, 11, 10, 12, 14, 20], [31, 20, 14, 12, 10, 11, 13, 4, 2, 1, 3, 8, 6, 5, 7, 9, 18, 16, 15, 17, 19, 0, 21, 29, 27, 28, 30, 25, 23, 22, 24, 26], [32, 26, 24, 22, 23, 25, 30, 28, 27, 29, 31, 21, 0, 19, 17, 15, 16, 18, 9, 7, 5, 6, 8, 3, 1, 2, 4, 13, 11, 10, 12, 14, 20], [33, 20, 14, 12, 10, 11, 13, 4, 2, 1, 3, 8, 6, 5, 7, 9, 18, 16, 15, 17, 19, 0, 21, 31, 29, 27, 28, 30, 25, 23, 22, 24, 26, 32], [34, 33, 20, 14, 12, 10, 11, 13, 4, 2, 1, 3, 8, 6, 5, 7, 9, 18, 16, 15, 17, 19, 0, 21, 31, 29, 27, 28, 30, 25, 23, 22, 24, 26, 32], [35, 34, 33, 20, 14, 12, 10, 11, 13, 4, 2, 1, 3, 8, 6, 5, 7, 9, 18, 16, 15, 17, 19, 0, 21, 31, 29, 27, 28, 30, 25, 23, 22, 24, 26, 32], [36, 34, 35, 33, 20, 14, 12, 10, 11, 13, 4, 2, 1, 3, 8, 6, 5, 7, 9, 18, 16, 15, 17, 19, 0, 21, 31, 29, 27, 28, 30, 25, 23, 22, 24, 26, 32], [37, 35, 34, 36, 33, 20, 14, 12, 10, 11, 13, 4, 2, 1, 3, 8, 6, 5, 7, 9, 18, 16, 15, 17, 19, 0, 21, 31, 29, 27, 28, 30, 25, 23, 22, 24, 26, 32], [33, 20, 14, 12, 10, 11, 13, 4, 2, 1, 3, 8, 6, 5, 7, 9, 18, 16, 15, 17, 19, 0, 21, 31, 29, 27, 28, 30, 25, 23, 22, 24, 26, 32], [39, 33, 20, 14, 12, 10, 11, 13, 4, 2, 1, 3, 8, 6, 5, 7, 9, 18, 16, 15, 17, 19, 0, 21, 31, 29, 27, 28, 30, 25, 23, 22, 24, 26, 32], [40, 39, 33, 20, 14, 12, 10, 11, 13, 4, 2, 1, 3, 8, 6, 5, 7, 9, 18, 16, 15, 17, 19, 0, 21, 31, 29, 27, 28, 30, 25, 23, 22, 24, 26, 32], [41, 39, 40, 33, 20, 14, 12, 10, 11, 13, 4, 2, 1, 3, 8, 6, 5, 7, 9, 18, 16, 15, 17, 19, 0, 21, 31, 29, 27, 28, 30, 25, 23, 22, 24, 26, 32], [38, 36, 34, 35, 37, 42, 40, 39, 41, 33, 20, 14, 12, 10, 11, 13, 4, 2, 1, 3, 8, 6, 5, 7, 9, 18, 16, 15, 17, 19, 0, 21, 31, 29, 27, 28, 30, 25, 23, 22, 24, 26, 32], [43, 32, 26, 24, 22, 23, 25, 30, 28, 27, 29, 31, 21, 0, 19, 17, 15, 16, 18, 9, 7, 5, 6, 8, 3, 1, 2, 4, 13, 11, 10, 12, 14, 20, 33, 41, 39, 40, 42, 37, 35, 34, 36, 38], [44, 38, 36, 34, 35, 37, 42, 40, 39, 41, 43, 33, 20, 14, 12, 10, 11, 13, 4, 2, 1, 3, 8, 6, 5, 7, 9, 18, 16, 15, 17, 19, 0, 21, 31, 29, 27, 28, 30, 25, 23, 22, 24, 26, 32], [45, 32, 26, 24, 22, 23, 25, 30, 28, 27, 29, 31, 21, 0, 19, 17, 15, 16, 18, 9, 7, 5, 6, 8, 3, 1, 2, 4, 13, 11, 10, 12, 14, 20, 33, 43, 41, 39, 40, 42, 37, 35, 34, 36, 38, 44], [46, 45, 32, 26, 24, 22, 23, 25, 30, 28, 27, 29, 31, 21, 0, 19, 17, 15, 16, 18, 9, 7, 5, 6, 8, 3, 1, 2, 4, 13, 11, 10, 12, 14, 20, 33, 43, 41, 39, 40, 42, 37, 35, 34, 36, 38, 44], [47, 46, 45, 32, 26, 24, 22, 23, 25, 30, 28, 27, 29, 31, 21, 0, 19, 17, 15, 16, 18, 9, 7, 5, 6, 8, 3, 1, 2, 4, 13, 11, 10, 12, 14, 20, 33, 43, 41, 39, 40, 42, 37, 35, 34, 36, 38, 44], [48, 46, 47, 45, 32, 26, 24, 22, 23, 25, 30, 28, 27, 29, 31, 21, 0, 19, 17, 15, 16, 18, 9, 7, 5, 6, 8, 3, 1, 2, 4, 13, 11, 10, 12, 14, 20, 33, 43, 41, 39, 40, 42, 37, 35, 34, 36, 38, 44], [49, 47, 46, 48, 45, 32, 26, 24, 22, 23, 25, 30, 28, 27, 29, 31, 21, 0, 19, 17, 15, 16, 18, 9, 7, 5, 6, 8, 3, 1, 2, 4, 13, 11, 10, 12, 14, 20, 33, 43, 41, 39, 40, 42, 37, 35, 34, 36, 38, 44], [50, 44, 38, 36, 34, 35, 37, 42, 40, 39, 41, 43, 33, 20, 14, 12, 10, 11, 13, 4, 2, 1, 3, 8, 6, 5, 7, 9, 18, 16, 15, 17, 19, 0, 21, 31, 29, 27, 28, 30, 25, 23, 22, 24, 26, 32, 45, 48, 46, 47, 49], [51, 49, 47, 46, 48, 50, 45, 32, 26, 24, 22, 23, 25, 30, 28, 27, 29, 31, 21, 0, 19, 17, 15, 16, 18, 9, 7, 5, 6, 8, 3, 1, 2, 4, 13, 11, 10, 12, 14, 20, 33, 43, 41, 39, 40, 42, 37, 35, 34, 36, 38, 44], [52, 44, 38, 36, 34, 35, 37, 42, 40, 39, 41, 43, 33, 20, 14, 12, 10, 11, 13, 4, 2, 1, 3, 8, 6, 5, 7, 9, 18, 16, 15, 17, 19, 0, 21, 31, 29, 27, 28, 30, 25, 23, 22, 24, 26, 32, 45, 50, 48, 46, 47, 49, 51], [53, 51, 49, 47, 46, 48, 50, 45, 32, 26, 24, 22, 23, 25, 30, 28, 27, 29, 31, 21, 0, 19, 17, 15, 16, 18, 9, 7, 5, 6, 8, 3, 1, 2, 4, 13, 11, 10, 12, 14, 20, 33, 43, 41, 39, 40, 42, 37, 35, 34, 36, 38, 44, 52], [54, 52, 44, 38, 36, 34, 35, 37, 42, 40, 39, 41, 43, 33, 20, 14, 12, 10, 11, 13, 4, 2, 1, 3, 8, 6, 5, 7, 9, 18, 16, 15, 17, 19, 0, 21, 31, 29, 27, 28, 30, 25, 23, 22, 24, 26, 32, 45, 50, 48, 46, 47, 49, 51, 53]] [12288, 12304, 12320, 12336, 12352, 12368, 12384, 12400, 12416, 12432, 12448, 12464, 12480, 12496, 12512, 12528, 12544, 12560, 12576, 12592, 12608, 12624, 12640, 12656, 12672, 12688, 12704, 12720, 12736, 12752, 12768, 12784, 12800, 12816, 12832, 12848, 12864, 12880, 12896, 12912, 12928, 12944, 12960, 12976, 12992, 13008, 13024, 13040, 13056, 13072, 13088, 13104, 13120, 13136, 13152, 13168])
  .ret)))))))
theorem rcq6 : resC Go.Proofs.Try.prog Go.Proofs.Try.f6.ntmps ((Go.Proofs.Try.f6.body).getD .skip) = some (strip rc6) := by kernel_rfl
def rv6 : List RV := [(.tmp 2)]
theorem rvq6 : Go.Proofs.Try.f6.results.toList.mapM (resRV Go.Proofs.Try.prog) = some rv6 := by kernel_rfl

structure ResI (a b : Int) (n : Nat) (z0 z1 : Zn) : Prop where
  chk : checkZ [z0, z1] = true
  s0 : z0.size = a
  s1 : z1.size = b
  m0 : z0.min = a / 8
  m1 : z1.min = b / 8
  f0 : z0.min ≤ z0.free.length
  f1 : z1.min ≤ z1.free.length
  tot : (n : Int) + z0.free.length + z1.free.length = a + b
theorem ResI.new {a b : Int} (ha : 8 ≤ a ∧ a ≤ 17) (hb : 8 ≤ b ∧ b ≤ 17) : (newF [a, b]).2 = 0 ∧ ∃ z0 z1, (newF [a, b]).1 = [z0, z1] ∧ ResI a b 0 z0 z1 := by
  have h2 : (newF [a, b]).2 = 0 := newF_of (by simp) (fun n hn => by simp at hn; omega) (by simp [List.foldr]; omega)
  obtain ⟨h3, h4, h5⟩ := newF_ok h2
  refine ⟨h2, ?_⟩
  have b1 : badN 1 a = false := by
    simp only [badN, Bool.or_eq_false_iff, decide_eq_false_iff_not]; rw [wrapI (by omega) (by omega)]; omega
  have b2 : badN (1 + a) b = false := by
    simp only [badN, Bool.or_eq_false_iff, decide_eq_false_iff_not]; rw [wrapI (by omega) (by omega)]; omega
  simp only [newR, b1, b2, cond_false, Option.map_some, Option.some.injEq] at h5
  rw [← h5] at h3 ⊢
  have e8a := divW_in (n := a) (k := 8) (by omega) (by omega) (by decide)
  have e8b := divW_in (n := b) (k := 8) (by omega) (by omega) (by decide)
  refine ⟨_, _, rfl, h3, rfl, rfl, e8a.1, e8b.1, ?_, ?_, ?_⟩
  · show divW a 8 ≤ ((seqI 1 (1 + a)).length : Int); rw [seqI_len, e8a.1]; omega
  · show divW b 8 ≤ ((seqI (1 + a) (1 + a + b)).length : Int); rw [seqI_len, e8b.1]; omega
  · show ((0 : Nat) : Int) + ((seqI 1 (1 + a)).length : Int) + ((seqI (1 + a) (1 + a + b)).length : Int) = a + b
    rw [seqI_len, seqI_len]; omega
theorem hasZ_calm (z : Zn) : hasZ false z = decide (z.min < (z.free.length : Int)) := rfl
theorem ResI.take {a b : Int} {n : Nat} {z0 z1 : Zn} (h : ResI a b n z0 z1) :
    ((takeG ([z0, z1].map exZ) [z0, z1] 1 false).2.2 ≠ 0 ∧ (z0.free.length : Int) = z0.min ∧ (z1.free.length : Int) = z1.min) ∨
    ((takeG ([z0, z1].map exZ) [z0, z1] 1 false).2.2 = 0 ∧ ∃ y0 y1, (takeG ([z0, z1].map exZ) [z0, z1] 1 false).1 = [y0, y1] ∧ ResI a b (n + 1) y0 y1) := by
  have hchk := takeG_check (p := 1) (u := false) (SimZ.ex [z0, z1]) h.chk
  have key := takeG_R (base := [z0, z1].map exZ) (p := 1) (u := false) h.chk
  generalize takeG ([z0, z1].map exZ) [z0, z1] 1 false = q at key hchk ⊢
  have hf0 := h.f0
  have hf1 := h.f1
  have ht := h.tot
  cases key with
  | range hr => exfalso; simp at hr
  | full h1 h2 h3 =>
    left
    have a0 := h3 0 (by decide)
    have a1 := h3 1 (by decide)
    simp only [List.getD_cons_zero, List.getD_cons_succ, hasZ_calm, decide_eq_false_iff_not] at a0 a1
    exact ⟨by show (3 : Int) ≠ 0; decide, by omega, by omega⟩
  | ok h1 h2 i hi hp hz hn =>
    right
    refine ⟨rfl, ?_⟩
    have hi2 : i < 2 := hi
    obtain rfl | rfl : i = 0 ∨ i = 1 := by omega
    · simp only [List.getElem_cons_zero, hasZ_calm, decide_eq_true_eq] at hz
      refine ⟨takenZ z0, exZ z1, rfl, hchk, h.s0, h.s1, h.m0, h.m1, ?_, hf1, ?_⟩
      · show z0.min ≤ ((z0.free.drop 1).length : Int); rw [List.length_drop]; omega
      · show ((n + 1 : Nat) : Int) + ((z0.free.drop 1).length : Int) + z1.free.length = a + b; rw [List.length_drop]; have := (((check_iff _).1 h.chk).1).1.marks; omega
    · simp only [List.getElem_cons_succ, List.getElem_cons_zero, hasZ_calm, decide_eq_true_eq] at hz
      refine ⟨exZ z0, takenZ z1, rfl, hchk, h.s0, h.s1, h.m0, h.m1, hf0, ?_, ?_⟩
      · show z1.min ≤ ((z1.free.drop 1).length : Int); rw [List.length_drop]; omega
      · show ((n + 1 : Nat) : Int) + z0.free.length + ((z1.free.drop 1).length : Int) = a + b; rw [List.length_drop]; have := (((check_iff _).1 h.chk).1).2.1.marks; omega
set_option maxRecDepth 20000 in
set_option maxHeartbeats 1000000 in
theorem ok6 (L : List Int) (hL : (L.length : Int) < 2 ^ 62) : FnC Try.prog 6 [] [.lst 1 false (rowsI L)] (.bool true) [] := by
  refine fn_okC (ob0 := []) (rc := rc6) (rvs := rv6) Try.func6 rfl rcq6 rvq6 (show 1 ≤ _ by decide) ?_
  have a1 := nxV_in L 0 10 (by decide) (by decide)
  have a2 := nxV_in L (nxI L 0) 10 (by decide) (by decide)
  have hJ1 := nxI_in L 0 (by omega)
  have hJ2 := nxI_in L _ hJ1
  repeat ((conv => whnf); first | refine Cd.seq ?_ | refine Cd.cut ?_ | refine Cd.reg ?_ | refine Cd.block ?_ | refine Cd.cond ?_ | refine Cd.dreg ?_ | refine Cd.skip ?_ | refine Cd.ret ?_ | refine Cd.exit ?_ | refine Cd.loop ?_ | refine ⟨rfl, ?_⟩ | refine ⟨Nat.le_of_ble_eq_true rfl, ?_⟩ | refine ⟨.inl rfl, ?_⟩ | refine ⟨fun h => Bool.noConfusion h, ?_⟩ | refine .inr ⟨fun _ => ⟨[0], _, _, _, ok16n L _ _ hL (by omega) (by omega) (by omega), ⟨rfl, rfl, trivial⟩, rfl, rfl, rfl, rfl, ?_⟩, (by intro h; cases h)⟩)
  conv => whnf
  refine ⟨Unit, fun _ => True, fun _ => ⟨[(20, ⟨[], true, .lst 1 false (rowsI [8 + nxV L 0 10, 8 + nxV L (nxI L 0) 10])⟩)], [], 0⟩, ?_, fun _ _ => ?_⟩
  · repeat ((conv => whnf); first | refine Cd.seq ?_ | refine Cd.cut ?_ | refine Cd.reg ?_ | refine Cd.block ?_ | refine Cd.cond ?_ | refine Cd.dreg ?_ | refine Cd.skip ?_ | refine Cd.ret ?_ | refine Cd.exit ?_ | refine Cd.loop ?_ | refine ⟨rfl, ?_⟩ | refine ⟨Nat.le_of_ble_eq_true rfl, ?_⟩ | refine ⟨.inl rfl, ?_⟩ | refine ⟨fun h => Bool.noConfusion h, ?_⟩ | refine .inr ⟨fun _ => ⟨[0], _, _, _, ok16n L _ _ hL (by omega) (by omega) (by omega), ⟨rfl, rfl, trivial⟩, rfl, rfl, rfl, rfl, ?_⟩, (by intro h; cases h)⟩)
    conv => whnf
    refine .inr ⟨fun _ => ⟨[0], _, _, _, ok16n L 0 10 hL (by omega) (by decide) (by decide), ⟨rfl, rfl, trivial⟩, rfl, rfl, rfl, rfl, ?_⟩, (by intro h; cases h)⟩
    repeat ((conv => whnf); first | refine Cd.seq ?_ | refine Cd.cut ?_ | refine Cd.reg ?_ | refine Cd.block ?_ | refine Cd.cond ?_ | refine Cd.dreg ?_ | refine Cd.skip ?_ | refine Cd.ret ?_ | refine Cd.exit ?_ | refine Cd.loop ?_ | refine ⟨rfl, ?_⟩ | refine ⟨Nat.le_of_ble_eq_true rfl, ?_⟩ | refine ⟨.inl rfl, ?_⟩ | refine ⟨fun h => Bool.noConfusion h, ?_⟩ | refine .inr ⟨fun _ => ⟨[0], _, _, _, ok16n L _ _ hL (by omega) (by omega) (by omega), ⟨rfl, rfl, trivial⟩, rfl, rfl, rfl, rfl, ?_⟩, (by intro h; cases h)⟩)
    conv => whnf
    rw [wrapI (n := 8 + nxV L 0 10) (by omega) (by omega), wrapI (n := 8 + nxV L (nxI L 0) 10) (by omega) (by omega)]
    refine ⟨(), trivial, ?_⟩
    refine viewI [] rfl rfl ?_ rfl ?_ rfl ?_
    repeat' (first | exact trivial | rfl | exact .inl rfl | exact .inr rfl | exact id | exact (fun h => Bool.noConfusion h) | refine And.intro ?_ ?_)
    exact Nat.le_refl 2
  generalize ha : 8 + nxV L 0 10 = a
  generalize hb : 8 + nxV L (nxI L 0) 10 = b
  have ha' : 8 ≤ a ∧ a ≤ 17 := by omega
  have hb' : 8 ≤ b ∧ b ≤ 17 := by omega
  clear ha hb a1 a2 hJ1 hJ2
  obtain ⟨h0, z0, z1, hx, hI⟩ := ResI.new ha' hb'
  repeat ((conv => whnf); first | refine Cd.seq ?_ | refine Cd.cut ?_ | refine Cd.reg ?_ | refine Cd.block ?_ | refine Cd.cond ?_ | refine Cd.dreg ?_ | refine Cd.skip ?_ | refine Cd.ret ?_ | refine Cd.exit ?_ | refine Cd.loop ?_ | refine ⟨rfl, ?_⟩ | refine ⟨Nat.le_of_ble_eq_true rfl, ?_⟩ | refine ⟨.inl rfl, ?_⟩ | refine ⟨fun h => Bool.noConfusion h, ?_⟩ | refine .inl ⟨_, fun _ => ⟨purA rfl, (by first | exact ok32 [a, b] false (by simp))⟩, .inl rfl, ?_⟩ | refine .inr ⟨fun _ => ⟨[0], _, _, _, ok16n L _ _ hL (by omega) (by omega) (by omega), ⟨rfl, rfl, trivial⟩, rfl, rfl, rfl, rfl, ?_⟩, (by intro h; cases h)⟩)
  conv => whnf
  rw [h0, hx]
  repeat ((conv => whnf); first | refine Cd.seq ?_ | refine Cd.cut ?_ | refine Cd.reg ?_ | refine Cd.block ?_ | refine Cd.cond ?_ | refine Cd.dreg ?_ | refine Cd.skip ?_ | refine Cd.ret ?_ | refine Cd.exit ?_ | refine Cd.loop ?_ | refine ⟨rfl, ?_⟩ | refine ⟨Nat.le_of_ble_eq_true rfl, ?_⟩ | refine ⟨.inl rfl, ?_⟩ | refine ⟨fun h => Bool.noConfusion h, ?_⟩ | refine ⟨?_, fun h => Bool.noConfusion h⟩ | refine fun (_ : false = false) => ?_ | refine fun (_ : true = true) => ?_ | refine .inr ⟨fun _ => ⟨[0], _, _, _, ok16n L _ _ hL (by omega) (by omega) (by omega), ⟨rfl, rfl, trivial⟩, rfl, rfl, rfl, rfl, ?_⟩, (by intro h; cases h)⟩)
  conv => whnf
  refine ⟨Nat × Zn × Zn, fun p => p.1 ≤ 64 ∧ ResI a b p.1 p.2.1 p.2.2, fun p => ⟨[(4, ⟨[], true, .lst 6 false (rowsZ [p.2.1, p.2.2])⟩), (6, ⟨[], true, .int .i64 (p.1 : Int)⟩)], [], 0⟩, fun p => 64 - p.1, ⟨(0, z0, z1), ⟨by simp, hI⟩, ?_⟩, fun p hp => ?_⟩
  · refine viewI [] rfl rfl ?_ rfl ?_ rfl ?_
    repeat' (first | exact trivial | rfl | exact .inl rfl | exact .inr rfl | exact id | exact (fun h => Bool.noConfusion h) | refine And.intro ?_ ?_)
  clear hI hx h0
  obtain ⟨n, z0, z1⟩ := p
  obtain ⟨hp1, hI⟩ := hp
  dsimp only at hp1 hI ⊢
  have hsm := check_small hI.chk
  have ht := hI.tot
  have hs0 := hI.s0; have hs1 := hI.s1; have hm0 := hI.m0; have hm1 := hI.m1; have hf0 := hI.f0; have hf1 := hI.f1
  repeat ((conv => whnf); first | refine Cd.seq ?_ | refine Cd.cut ?_ | refine Cd.reg ?_ | refine Cd.block ?_ | refine Cd.cond ?_ | refine Cd.dreg ?_ | refine Cd.skip ?_ | refine Cd.ret ?_ | refine Cd.exit ?_ | refine Cd.loop ?_ | refine ⟨rfl, ?_⟩ | refine ⟨Nat.le_of_ble_eq_true rfl, ?_⟩ | refine ⟨.inl rfl, ?_⟩ | refine ⟨fun h => Bool.noConfusion h, ?_⟩ | refine .inr ⟨fun _ => ⟨[0], _, _, _, ok16n L _ _ hL (by omega) (by omega) (by omega), ⟨rfl, rfl, trivial⟩, rfl, rfl, rfl, rfl, ?_⟩, (by intro h; cases h)⟩)
  conv => whnf
  refine ⟨fun h1 => ?_, fun h1 => ?_⟩ <;> try simp only [Bool.cond_true_left, Bool.cond_false_right, Bool.not_eq_true', Bool.not_eq_false', Bool.not_not] at h1
  · have h1 : n < 64 := by simp at h1; omega
    repeat ((conv => whnf); first | refine Cd.seq ?_ | refine Cd.cut ?_ | refine Cd.reg ?_ | refine Cd.block ?_ | refine Cd.cond ?_ | refine Cd.dreg ?_ | refine Cd.skip ?_ | refine Cd.ret ?_ | refine Cd.exit ?_ | refine Cd.loop ?_ | refine ⟨rfl, ?_⟩ | refine ⟨Nat.le_of_ble_eq_true rfl, ?_⟩ | refine ⟨.inl rfl, ?_⟩ | refine ⟨fun h => Bool.noConfusion h, ?_⟩ | refine .inl ⟨_, fun _ => ⟨purA rfl, (by first | exact ok18 [z0, z1] false 1 false hsm)⟩, .inl rfl, ?_⟩ | refine .inr ⟨fun _ => ⟨[0], _, _, _, ok16n L _ _ hL (by omega) (by omega) (by omega), ⟨rfl, rfl, trivial⟩, rfl, rfl, rfl, rfl, ?_⟩, (by intro h; cases h)⟩)
    conv => whnf
    have key := hI.take
    generalize takeG ([z0, z1].map exZ) [z0, z1] 1 false = q at key ⊢
    obtain ⟨y, f, g⟩ := q
    dsimp only at key ⊢
    refine ⟨fun h2 => ?_, fun h2 => ?_⟩ <;> try simp only [Bool.cond_true_left, Bool.cond_false_right, Bool.not_eq_true', Bool.not_eq_false', Bool.not_not] at h2
    · have h2 : g ≠ 0 := by simpa using h2
      obtain ⟨-, k1, k2⟩ := key.resolve_right fun h => h2 h.1
      repeat ((conv => whnf); first | refine Cd.seq ?_ | refine Cd.cut ?_ | refine Cd.reg ?_ | refine Cd.block ?_ | refine Cd.cond ?_ | refine Cd.dreg ?_ | refine Cd.skip ?_ | refine Cd.ret ?_ | refine Cd.exit ?_ | refine Cd.loop ?_ | refine ⟨rfl, ?_⟩ | refine ⟨Nat.le_of_ble_eq_true rfl, ?_⟩ | refine ⟨.inl rfl, ?_⟩ | refine ⟨fun h => Bool.noConfusion h, ?_⟩ | refine .inr ⟨fun _ => ⟨[0], _, _, _, ok16n L _ _ hL (by omega) (by omega) (by omega), ⟨rfl, rfl, trivial⟩, rfl, rfl, rfl, rfl, ?_⟩, (by intro h; cases h)⟩)
      conv => whnf
      refine ⟨fun _ => ⟨rfl, Int.le_refl 0, by show (0 : Int) < 2; decide⟩, ?_⟩
      repeat ((conv => whnf); first | refine Cd.seq ?_ | refine Cd.cut ?_ | refine Cd.reg ?_ | refine Cd.block ?_ | refine Cd.cond ?_ | refine Cd.dreg ?_ | refine Cd.skip ?_ | refine Cd.ret ?_ | refine Cd.exit ?_ | refine Cd.loop ?_ | refine ⟨rfl, ?_⟩ | refine ⟨Nat.le_of_ble_eq_true rfl, ?_⟩ | refine ⟨.inl rfl, ?_⟩ | refine ⟨fun h => Bool.noConfusion h, ?_⟩ | refine .inr ⟨fun _ => ⟨[0], _, _, _, ok16n L _ _ hL (by omega) (by omega) (by omega), ⟨rfl, rfl, trivial⟩, rfl, rfl, rfl, rfl, ?_⟩, (by intro h; cases h)⟩)
      conv => whnf
      refine ⟨fun _ => ⟨rfl, Int.le_refl 0, by show (0 : Int) < 2; decide⟩, ?_⟩
      repeat ((conv => whnf); first | refine Cd.seq ?_ | refine Cd.cut ?_ | refine Cd.reg ?_ | refine Cd.block ?_ | refine Cd.cond ?_ | refine Cd.dreg ?_ | refine Cd.skip ?_ | refine Cd.ret ?_ | refine Cd.exit ?_ | refine Cd.loop ?_ | refine ⟨rfl, ?_⟩ | refine ⟨Nat.le_of_ble_eq_true rfl, ?_⟩ | refine ⟨.inl rfl, ?_⟩ | refine ⟨fun h => Bool.noConfusion h, ?_⟩ | refine .inr ⟨fun _ => ⟨[0], _, _, _, ok16n L _ _ hL (by omega) (by omega) (by omega), ⟨rfl, rfl, trivial⟩, rfl, rfl, rfl, rfl, ?_⟩, (by intro h; cases h)⟩)
      conv => whnf
      refine ⟨fun _ => ⟨rfl, by decide, by show (1 : Int) < 2; decide⟩, ?_⟩
      repeat ((conv => whnf); first | refine Cd.seq ?_ | refine Cd.cut ?_ | refine Cd.reg ?_ | refine Cd.block ?_ | refine Cd.cond ?_ | refine Cd.dreg ?_ | refine Cd.skip ?_ | refine Cd.ret ?_ | refine Cd.exit ?_ | refine Cd.loop ?_ | refine ⟨rfl, ?_⟩ | refine ⟨Nat.le_of_ble_eq_true rfl, ?_⟩ | refine ⟨.inl rfl, ?_⟩ | refine ⟨fun h => Bool.noConfusion h, ?_⟩ | refine .inr ⟨fun _ => ⟨[0], _, _, _, ok16n L _ _ hL (by omega) (by omega) (by omega), ⟨rfl, rfl, trivial⟩, rfl, rfl, rfl, rfl, ?_⟩, (by intro h; cases h)⟩)
      conv => whnf
      refine ⟨fun _ => ⟨rfl, by decide, by show (1 : Int) < 2; decide⟩, ?_⟩
      repeat ((conv => whnf); first | refine Cd.seq ?_ | refine Cd.cut ?_ | refine Cd.reg ?_ | refine Cd.block ?_ | refine Cd.cond ?_ | refine Cd.dreg ?_ | refine Cd.skip ?_ | refine Cd.ret ?_ | refine Cd.exit ?_ | refine Cd.loop ?_ | refine ⟨rfl, ?_⟩ | refine ⟨Nat.le_of_ble_eq_true rfl, ?_⟩ | refine ⟨.inl rfl, ?_⟩ | refine ⟨fun h => Bool.noConfusion h, ?_⟩ | refine .inr ⟨fun _ => ⟨[0], _, _, _, ok16n L _ _ hL (by omega) (by omega) (by omega), ⟨rfl, rfl, trivial⟩, rfl, rfl, rfl, rfl, ?_⟩, (by intro h; cases h)⟩)
      conv => whnf
      have q1 : ((n : Int) == IntKind.i64.wrap (IntKind.i64.wrap (IntKind.i64.wrap (z0.size - z0.min) + z1.size) - z1.min)) = true := by
        rw [wrapI (n := z0.size - z0.min) (by omega) (by omega), wrapI (n := z0.size - z0.min + z1.size) (by omega) (by omega), wrapI (by omega) (by omega)]
        rw [beq_iff_eq]; omega
      rw [q1]
      refine ⟨fun _ => ⟨rfl, Int.le_refl 0, by show (0 : Int) < 2; decide⟩, ?_⟩
      repeat ((conv => whnf); first | refine Cd.seq ?_ | refine Cd.cut ?_ | refine Cd.reg ?_ | refine Cd.block ?_ | refine Cd.cond ?_ | refine Cd.dreg ?_ | refine Cd.skip ?_ | refine Cd.ret ?_ | refine Cd.exit ?_ | refine Cd.loop ?_ | refine ⟨rfl, ?_⟩ | refine ⟨Nat.le_of_ble_eq_true rfl, ?_⟩ | refine ⟨.inl rfl, ?_⟩ | refine ⟨fun h => Bool.noConfusion h, ?_⟩ | refine .inr ⟨fun _ => ⟨[0], _, _, _, ok16n L _ _ hL (by omega) (by omega) (by omega), ⟨rfl, rfl, trivial⟩, rfl, rfl, rfl, rfl, ?_⟩, (by intro h; cases h)⟩)
      conv => whnf
      refine ⟨fun _ => ⟨rfl, Int.le_refl 0, by show (0 : Int) < 2; decide⟩, ?_⟩
      repeat ((conv => whnf); first | refine Cd.seq ?_ | refine Cd.cut ?_ | refine Cd.reg ?_ | refine Cd.block ?_ | refine Cd.cond ?_ | refine Cd.dreg ?_ | refine Cd.skip ?_ | refine Cd.ret ?_ | refine Cd.exit ?_ | refine Cd.loop ?_ | refine ⟨rfl, ?_⟩ | refine ⟨Nat.le_of_ble_eq_true rfl, ?_⟩ | refine ⟨.inl rfl, ?_⟩ | refine ⟨fun h => Bool.noConfusion h, ?_⟩ | refine .inr ⟨fun _ => ⟨[0], _, _, _, ok16n L _ _ hL (by omega) (by omega) (by omega), ⟨rfl, rfl, trivial⟩, rfl, rfl, rfl, rfl, ?_⟩, (by intro h; cases h)⟩)
      conv => whnf
      have q2 : (((rowsI z0.free).length : Int) == z0.min) = true := by rw [rowsI_len, beq_iff_eq]; exact k1
      rw [q2]
      refine ⟨fun _ => ⟨rfl, by decide, by show (1 : Int) < 2; decide⟩, ?_⟩
      repeat ((conv => whnf); first | refine Cd.seq ?_ | refine Cd.cut ?_ | refine Cd.reg ?_ | refine Cd.block ?_ | refine Cd.cond ?_ | refine Cd.dreg ?_ | refine Cd.skip ?_ | refine Cd.ret ?_ | refine Cd.exit ?_ | refine Cd.loop ?_ | refine ⟨rfl, ?_⟩ | refine ⟨Nat.le_of_ble_eq_true rfl, ?_⟩ | refine ⟨.inl rfl, ?_⟩ | refine ⟨fun h => Bool.noConfusion h, ?_⟩ | refine .inr ⟨fun _ => ⟨[0], _, _, _, ok16n L _ _ hL (by omega) (by omega) (by omega), ⟨rfl, rfl, trivial⟩, rfl, rfl, rfl, rfl, ?_⟩, (by intro h; cases h)⟩)
      conv => whnf
      refine ⟨fun _ => ⟨rfl, by decide, by show (1 : Int) < 2; decide⟩, ?_⟩
      repeat ((conv => whnf); first | refine Cd.seq ?_ | refine Cd.cut ?_ | refine Cd.reg ?_ | refine Cd.block ?_ | refine Cd.cond ?_ | refine Cd.dreg ?_ | refine Cd.skip ?_ | refine Cd.ret ?_ | refine Cd.exit ?_ | refine Cd.loop ?_ | refine ⟨rfl, ?_⟩ | refine ⟨Nat.le_of_ble_eq_true rfl, ?_⟩ | refine ⟨.inl rfl, ?_⟩ | refine ⟨fun h => Bool.noConfusion h, ?_⟩ | refine .inr ⟨fun _ => ⟨[0], _, _, _, ok16n L _ _ hL (by omega) (by omega) (by omega), ⟨rfl, rfl, trivial⟩, rfl, rfl, rfl, rfl, ?_⟩, (by intro h; cases h)⟩)
      conv => whnf
      have q3 : (((rowsI z1.free).length : Int) == z1.min) = true := by rw [rowsI_len, beq_iff_eq]; exact k2
      rw [q3]
      refine ⟨fun _ => ⟨rfl, Int.le_refl 0, by show (0 : Int) < 2; decide⟩, ?_⟩
      repeat ((conv => whnf); first | refine Cd.seq ?_ | refine Cd.cut ?_ | refine Cd.reg ?_ | refine Cd.block ?_ | refine Cd.cond ?_ | refine Cd.dreg ?_ | refine Cd.skip ?_ | refine Cd.ret ?_ | refine Cd.exit ?_ | refine Cd.loop ?_ | refine ⟨rfl, ?_⟩ | refine ⟨Nat.le_of_ble_eq_true rfl, ?_⟩ | refine ⟨.inl rfl, ?_⟩ | refine ⟨fun h => Bool.noConfusion h, ?_⟩ | refine .inr ⟨fun _ => ⟨[0], _, _, _, ok16n L _ _ hL (by omega) (by omega) (by omega), ⟨rfl, rfl, trivial⟩, rfl, rfl, rfl, rfl, ?_⟩, (by intro h; cases h)⟩)
      conv => whnf
      have q4 : decide (0 < z0.min) = true := by rw [decide_eq_true_eq]; omega
      rw [q4]
      repeat ((conv => whnf); first | refine Cd.seq ?_ | refine Cd.cut ?_ | refine Cd.reg ?_ | refine Cd.block ?_ | refine Cd.cond ?_ | refine Cd.dreg ?_ | refine Cd.skip ?_ | refine Cd.ret ?_ | refine Cd.exit ?_ | refine Cd.loop ?_ | refine ⟨rfl, ?_⟩ | refine ⟨Nat.le_of_ble_eq_true rfl, ?_⟩ | refine ⟨.inl rfl, ?_⟩ | refine ⟨fun h => Bool.noConfusion h, ?_⟩ | refine .inl ⟨_, fun _ => ⟨purA rfl, (by first | exact ok31)⟩, .inl rfl, ?_⟩ | refine .inr ⟨fun _ => ⟨[0], _, _, _, ok16n L _ _ hL (by omega) (by omega) (by omega), ⟨rfl, rfl, trivial⟩, rfl, rfl, rfl, rfl, ?_⟩, (by intro h; cases h)⟩)
      conv => whnf
      refine ⟨[], ?_, rfl, trivial, rfl, ?_⟩
      · exact trivial
      try subst hk
      repeat' (first | exact trivial | rfl | exact .inl rfl | exact .inr rfl | exact id | exact (fun h => Bool.noConfusion h) | refine And.intro ?_ ?_)
    have h2 : g = 0 := by simpa using h2
    obtain ⟨-, y0, y1, rfl, hI'⟩ := key.resolve_left fun h => h.1 h2
    repeat ((conv => whnf); first | refine Cd.seq ?_ | refine Cd.cut ?_ | refine Cd.reg ?_ | refine Cd.block ?_ | refine Cd.cond ?_ | refine Cd.dreg ?_ | refine Cd.skip ?_ | refine Cd.ret ?_ | refine Cd.exit ?_ | refine Cd.loop ?_ | refine ⟨rfl, ?_⟩ | refine ⟨Nat.le_of_ble_eq_true rfl, ?_⟩ | refine ⟨.inl rfl, ?_⟩ | refine ⟨fun h => Bool.noConfusion h, ?_⟩ | refine .inr ⟨fun _ => ⟨[0], _, _, _, ok16n L _ _ hL (by omega) (by omega) (by omega), ⟨rfl, rfl, trivial⟩, rfl, rfl, rfl, rfl, ?_⟩, (by intro h; cases h)⟩)
    conv => whnf
    rw [wrapI (n := (n : Int) + 1) (by omega) (by omega), show ((n : Int) + 1) = ((n + 1 : Nat) : Int) by omega]
    refine ⟨(n + 1, y0, y1), ⟨by show n + 1 ≤ 64; omega, hI'⟩, ?_, by show 64 - (n + 1) < 64 - n; omega⟩
    refine viewI [] rfl rfl ?_ rfl ?_ rfl ?_
    repeat' (first | exact trivial | rfl | exact .inl rfl | exact .inr rfl | exact id | exact (fun h => Bool.noConfusion h) | refine And.intro ?_ ?_)
  exfalso
  simp at h1
  omega
end Go.Proofs.Ytcifhjkodbaghaa
