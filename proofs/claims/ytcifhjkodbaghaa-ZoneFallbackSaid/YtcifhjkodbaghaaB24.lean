/- Zone: the law ZoneFallback, as a contract. -/
import Derived.Test.YtcifhjkodbaghaaB23
set_option linter.unusedSimpArgs false
set_option linter.unusedVariables false
namespace Go.Proofs.Ytcifhjkodbaghaa
open Go Go.Sk Go.RowKit

/- pagecache/pagecachelaw10.ZoneFallback -/
def rc7 : RC :=
  (.seq
  (.reg [⟨(some 4), none, (.mv (.c (.bool false)))⟩] [])
  (.seq
  (.reg [⟨(some 14), none, (.mv (.t 0))⟩,
    ⟨(some 15), none, (.build [(.lst 0 true []), (.int .i64 0)] [(0, (1, (.t 14)))])⟩,
    ⟨(some 16), none, (.box (.t 15))⟩,
    ⟨(some 5), none, (.mv (.t 16))⟩] [14, 15, 16])
  (.seq
  (.reg [⟨(some 17), none, (.mv (.t 5))⟩,
    ⟨(some 18), none, (.call 34 [(.t 17)])⟩,
    ⟨(some 6), none, (.mv (.t 18))⟩] [17, 18])
  (.seq
  (.reg [⟨(some 19), none, (.mv (.t 5))⟩,
    ⟨(some 20), none, (.mv (.t 6))⟩,
    ⟨(some 21), none, (.len (.t 20))⟩,
    ⟨(some 22), none, (.call 16 [(.t 19), (.t 21)])⟩,
    ⟨(some 7), none, (.mv (.t 22))⟩] [19, 20, 21, 22])
  (.seq
  (.reg [⟨(some 24), none, (.mv (.t 6))⟩,
    ⟨(some 25), none, (.mv (.t 7))⟩,
    ⟨(some 26), none, (.mv (.t 1))⟩,
    ⟨(some 27), none, (.call 18 [(.t 24), (.t 25), (.t 26)])⟩,
    ⟨(some 23), none, (.mv (.t 27))⟩,
    ⟨(some 28), none, (.extr 0 (.t 23))⟩,
    ⟨(some 29), none, (.extr 1 (.t 23))⟩,
    ⟨(some 30), none, (.extr 2 (.t 23))⟩,
    ⟨(some 8), none, (.mv (.t 28))⟩,
    ⟨(some 9), none, (.mv (.t 29))⟩,
    ⟨(some 10), none, (.mv (.t 30))⟩] [24, 25, 26, 27, 23, 28, 29, 30])
  (.seq
  (.seq
  (.reg [⟨(some 31), none, (.mv (.t 6))⟩,
    ⟨(some 32), none, (.len (.t 31))⟩,
    ⟨(some 33), none, (.bin .sub (.t 32) (.c (.int .i64 1)))⟩,
    ⟨(some 11), none, (.mv (.t 33))⟩] [31, 32, 33])
  (.block 0
   (.loop
    (.seq
    (.seq
    (.reg [⟨(some 34), none, (.mv (.t 11))⟩,
      ⟨(some 35), none, (.bin .geq (.t 34) (.c (.int .i64 0)))⟩] [34])
    (.cond (.t 35)
     .skip
     (.exit 0)))
    (.seq
    (.block 1
     (.seq
     (.dreg 9216 9616 [⟨(some 38), none, (.mv (.t 6))⟩,
       ⟨(some 39), none, (.mv (.t 11))⟩,
       ⟨(some 40), none, (.iaddr 6 (.t 38) (.t 39))⟩,
       ⟨(some 41), none, (.faddr 5 (.t 40))⟩,
       ⟨(some 42), none, (.ld false 1 (.t 41))⟩,
       ⟨(some 43), none, (.len (.t 42))⟩,
       ⟨(some 44), none, (.mv (.t 6))⟩,
       ⟨(some 45), none, (.mv (.t 11))⟩,
       ⟨(some 46), none, (.iaddr 6 (.t 44) (.t 45))⟩,
       ⟨(some 47), none, (.faddr 2 (.t 46))⟩,
       ⟨(some 48), none, (.ld false 1 (.t 47))⟩,
       ⟨(some 49), none, (.bin .gtr (.t 43) (.t 48))⟩,
       ⟨(some 50), none, (.mv (.t 49))⟩,
       ⟨(some 51), (some (50, false)), (.mv (.t 1))⟩,
       ⟨(some 52), (some (50, false)), (.mv (.t 51))⟩,
       ⟨(some 53), (some (52, true)), (.mv (.t 6))⟩,
       ⟨(some 54), (some (52, true)), (.mv (.t 11))⟩,
       ⟨(some 55), (some (52, true)), (.iaddr 6 (.t 53) (.t 54))⟩,
       ⟨(some 56), (some (52, true)), (.faddr 5 (.t 55))⟩,
       ⟨(some 57), (some (52, true)), (.ld false 1 (.t 56))⟩,
       ⟨(some 58), (some (52, true)), (.len (.t 57))⟩,
       ⟨(some 59), (some (52, true)), (.bin .gtr (.t 58) (.c (.int .i64 0)))⟩,
       ⟨(some 60), (some (50, false)), (.pick (.t 52) (.t 59) (.c (.bool false)))⟩,
       ⟨(some 61), none, (.pick (.t 50) (.c (.bool true)) (.t 60))⟩,
       ⟨(some 12), none, (.mv (.t 61))⟩] [38, 39, 40, 41, 42, 43, 44, 45, 46, 47, 48, 49, 50, 51, 52, 53, 54, 55, 56, 57, 58, 59, 60, 61] [[], [], [0, 1], [2, 1, 0], [3, 0, 1, 2], [4, 2, 1, 0, 3], [], [], [6, 7], [8, 7, 6], [9, 6, 7, 8], [5, 3, 0, 1, 2, 4, 10, 8, 7, 6, 9], [11, 9, 6, 7, 8, 10, 4, 2, 1, 0, 3, 5], [12, 5, 3, 0, 1, 2, 4, 10, 8, 7, 6, 9, 11], [13, 12, 5, 3, 0, 1, 2, 4, 10, 8, 7, 6, 9, 11], [14, 11, 9, 6, 7, 8, 10, 4, 2, 1, 0, 3, 5, 12, 13], [14, 11, 9, 6, 7, 8, 10, 4, 2, 1, 0, 3, 5, 12, 13], [15, 16, 14, 11, 9, 6, 7, 8, 10, 4, 2, 1, 0, 3, 5, 12, 13], [17, 16, 15, 14, 11, 9, 6, 7, 8, 10, 4, 2, 1, 0, 3, 5, 12, 13], [18, 15, 16, 17, 14, 11, 9, 6, 7, 8, 10, 4, 2, 1, 0, 3, 5, 12, 13], [19, 17, 16, 15, 18, 14, 11, 9, 6, 7, 8, 10, 4, 2, 1, 0, 3, 5, 12, 13], [20, 18, 15, 16, 17, 19, 14, 11, 9, 6, 7, 8, 10, 4, 2, 1, 0, 3, 5, 12, 13], [21, 13, 14, 19, 17, 16, 15, 18, 20, 12, 5, 3, 0, 1, 2, 4, 10, 8, 7, 6, 9, 11], [22, 11, 9, 6, 7, 8, 10, 4, 2, 1, 0, 3, 5, 12, 20, 18, 15, 16, 17, 19, 14, 13, 21], [23, 21, 13, 14, 19, 17, 16, 15, 18, 20, 12, 5, 3, 0, 1, 2, 4, 10, 8, 7, 6, 9, 11, 22]] [9216, 9232, 9248, 9264, 9280, 9296, 9312, 9328, 9344, 9360, 9376, 9392, 9408, 9424, 9440, 9456, 9472, 9488, 9504, 9520, 9536, 9552, 9568, 9584, 9600])
     (.seq
     (.dreg 10240 10672 [⟨(some 62), none, (.mv (.t 10))⟩,
       ⟨(some 63), none, (.bin .eql (.t 62) (.c (.int .i64 0)))⟩,
       ⟨(some 64), none, (.mv (.t 63))⟩,
       ⟨(some 65), (some (64, true)), (.mv (.t 9))⟩,
       ⟨(some 66), (some (64, true)), (.mv (.t 6))⟩,
       ⟨(some 67), (some (64, true)), (.mv (.t 11))⟩,
       ⟨(some 68), (some (64, true)), (.iaddr 6 (.t 66) (.t 67))⟩,
       ⟨(some 69), (some (64, true)), (.faddr 0 (.t 68))⟩,
       ⟨(some 70), (some (64, true)), (.ld false 1 (.t 69))⟩,
       ⟨(some 71), (some (64, true)), (.bin .geq (.t 65) (.t 70))⟩,
       ⟨(some 72), none, (.pick (.t 64) (.t 71) (.c (.bool false)))⟩,
       ⟨(some 73), none, (.mv (.t 72))⟩,
       ⟨(some 74), (some (73, true)), (.mv (.t 9))⟩,
       ⟨(some 75), (some (73, true)), (.mv (.t 6))⟩,
       ⟨(some 76), (some (73, true)), (.mv (.t 11))⟩,
       ⟨(some 77), (some (73, true)), (.iaddr 6 (.t 75) (.t 76))⟩,
       ⟨(some 78), (some (73, true)), (.faddr 0 (.t 77))⟩,
       ⟨(some 79), (some (73, true)), (.ld false 1 (.t 78))⟩,
       ⟨(some 80), (some (73, true)), (.mv (.t 6))⟩,
       ⟨(some 81), (some (73, true)), (.mv (.t 11))⟩,
       ⟨(some 82), (some (73, true)), (.iaddr 6 (.t 80) (.t 81))⟩,
       ⟨(some 83), (some (73, true)), (.faddr 1 (.t 82))⟩,
       ⟨(some 84), (some (73, true)), (.ld false 1 (.t 83))⟩,
       ⟨(some 85), (some (73, true)), (.bin .add (.t 79) (.t 84))⟩,
       ⟨(some 86), (some (73, true)), (.bin .lss (.t 74) (.t 85))⟩,
       ⟨(some 87), none, (.pick (.t 73) (.t 86) (.c (.bool false)))⟩,
       ⟨(some 13), none, (.mv (.t 87))⟩] [62, 63, 64, 65, 66, 67, 68, 69, 70, 71, 72, 73, 74, 75, 76, 77, 78, 79, 80, 81, 82, 83, 84, 85, 86, 87] [[], [0], [1, 0], [2, 0, 1], [2, 0, 1], [2, 0, 1], [4, 5, 2, 0, 1], [6, 5, 4, 2, 0, 1], [7, 4, 5, 6, 2, 0, 1], [3, 8, 6, 5, 4, 7, 2, 0, 1], [9, 1, 0, 2, 7, 4, 5, 6, 8, 3], [10, 3, 8, 6, 5, 4, 7, 9, 2, 0, 1], [11, 1, 0, 2, 9, 7, 4, 5, 6, 8, 3, 10], [11, 1, 0, 2, 9, 7, 4, 5, 6, 8, 3, 10], [11, 1, 0, 2, 9, 7, 4, 5, 6, 8, 3, 10], [13, 14, 11, 1, 0, 2, 9, 7, 4, 5, 6, 8, 3, 10], [15, 14, 13, 11, 1, 0, 2, 9, 7, 4, 5, 6, 8, 3, 10], [16, 13, 14, 15, 11, 1, 0, 2, 9, 7, 4, 5, 6, 8, 3, 10], [11, 1, 0, 2, 9, 7, 4, 5, 6, 8, 3, 10], [11, 1, 0, 2, 9, 7, 4, 5, 6, 8, 3, 10], [18, 19, 11, 1, 0, 2, 9, 7, 4, 5, 6, 8, 3, 10], [20, 19, 18, 11, 1, 0, 2, 9, 7, 4, 5, 6, 8, 3, 10], [21, 18, 19, 20, 11, 1, 0, 2, 9, 7, 4, 5, 6, 8, 3, 10], [17, 15, 14, 13, 16, 22, 20, 19, 18, 21, 11, 1, 0, 2, 9, 7, 4, 5, 6, 8, 3, 10], [12, 23, 21, 18, 19, 20, 22, 16, 13, 14, 15, 17, 11, 1, 0, 2, 9, 7, 4, 5, 6, 8, 3, 10], [24, 10, 3, 8, 6, 5, 4, 7, 9, 2, 0, 1, 11, 17, 15, 14, 13, 16, 22, 20, 19, 18, 21, 23, 12], [25, 12, 23, 21, 18, 19, 20, 22, 16, 13, 14, 15, 17, 11, 1, 0, 2, 9, 7, 4, 5, 6, 8, 3, 10, 24]] [10240, 10256, 10272, 10288, 10304, 10320, 10336, 10352, 10368, 10384, 10400, 10416, 10432, 10448, 10464, 10480, 10496, 10512, 10528, 10544, 10560, 10576, 10592, 10608, 10624, 10640, 10656])
     (.seq
     (.seq
     (.reg [⟨(some 88), none, (.mv (.t 11))⟩,
       ⟨(some 89), none, (.mv (.t 7))⟩,
       ⟨(some 90), none, (.bin .gtr (.t 88) (.t 89))⟩,
       ⟨(some 91), none, (.mv (.t 90))⟩,
       ⟨(some 92), (some (91, true)), (.mv (.t 13))⟩,
       ⟨(some 93), none, (.pick (.t 91) (.t 92) (.c (.bool false)))⟩,
       ⟨(some 94), none, (.mv (.t 93))⟩,
       ⟨(some 95), (some (94, false)), (.mv (.t 11))⟩,
       ⟨(some 96), (some (94, false)), (.mv (.t 7))⟩,
       ⟨(some 97), (some (94, false)), (.bin .leq (.t 95) (.t 96))⟩,
       ⟨(some 98), (some (94, false)), (.mv (.t 97))⟩,
       ⟨(some 99), (some (98, true)), (.mv (.t 12))⟩,
       ⟨(some 100), (some (94, false)), (.pick (.t 98) (.t 99) (.c (.bool false)))⟩,
       ⟨(some 101), (some (94, false)), (.mv (.t 100))⟩,
       ⟨(some 102), (some (101, true)), (.mv (.t 13))⟩,
       ⟨(some 103), (some (101, true)), (.un .not (.t 102))⟩,
       ⟨(some 104), (some (94, false)), (.pick (.t 101) (.t 103) (.c (.bool false)))⟩,
       ⟨(some 105), none, (.pick (.t 94) (.c (.bool true)) (.t 104))⟩] [88, 89, 90, 91, 92, 93, 94, 95, 96, 97, 98, 99, 100, 101, 102, 103, 104])
     (.cond (.t 105)
      (.seq
      (.reg [⟨(some 4), none, (.mv (.c (.bool false)))⟩] [])
      .ret)
      .skip))
     (.seq
     (.reg [⟨(some 106), none, (.mv (.t 11))⟩,
       ⟨(some 107), none, (.mv (.t 7))⟩,
       ⟨(some 108), none, (.bin .leq (.t 106) (.t 107))⟩,
       ⟨(some 109), none, (.mv (.t 108))⟩,
       ⟨(some 110), (some (109, true)), (.mv (.t 12))⟩,
       ⟨(some 111), none, (.pick (.t 109) (.t 110) (.c (.bool false)))⟩] [106, 107, 108, 109, 110])
     (.cond (.t 111)
      (.seq
      (.dreg 14336 14912 [⟨(some 112), none, (.mv (.t 8))⟩,
        ⟨(some 113), none, (.len (.t 112))⟩,
        ⟨(some 114), none, (.mv (.t 6))⟩,
        ⟨(some 115), none, (.len (.t 114))⟩,
        ⟨(some 116), none, (.bin .eql (.t 113) (.t 115))⟩,
        ⟨(some 117), none, (.mv (.t 116))⟩,
        ⟨(some 118), (some (117, true)), (.mv (.t 8))⟩,
        ⟨(some 119), (some (117, true)), (.mv (.t 11))⟩,
        ⟨(some 120), (some (117, true)), (.iaddr 6 (.t 118) (.t 119))⟩,
        ⟨(some 121), (some (117, true)), (.faddr 5 (.t 120))⟩,
        ⟨(some 122), (some (117, true)), (.ld false 1 (.t 121))⟩,
        ⟨(some 123), (some (117, true)), (.len (.t 122))⟩,
        ⟨(some 124), (some (117, true)), (.mv (.t 6))⟩,
        ⟨(some 125), (some (117, true)), (.mv (.t 11))⟩,
        ⟨(some 126), (some (117, true)), (.iaddr 6 (.t 124) (.t 125))⟩,
        ⟨(some 127), (some (117, true)), (.faddr 5 (.t 126))⟩,
        ⟨(some 128), (some (117, true)), (.ld false 1 (.t 127))⟩,
        ⟨(some 129), (some (117, true)), (.len (.t 128))⟩,
        ⟨(some 130), (some (117, true)), (.bin .sub (.t 129) (.c (.int .i64 1)))⟩,
        ⟨(some 131), (some (117, true)), (.bin .eql (.t 123) (.t 130))⟩,
        ⟨(some 132), none, (.pick (.t 117) (.t 131) (.c (.bool false)))⟩,
        ⟨(some 133), none, (.mv (.t 132))⟩,
        ⟨(some 134), (some (133, true)), (.mv (.t 6))⟩,
        ⟨(some 135), (some (133, true)), (.mv (.t 11))⟩,
        ⟨(some 136), (some (133, true)), (.iaddr 6 (.t 134) (.t 135))⟩,
        ⟨(some 137), (some (133, true)), (.faddr 5 (.t 136))⟩,
        ⟨(some 138), (some (133, true)), (.ld false 1 (.t 137))⟩,
        ⟨(some 139), (some (133, true)), (.iaddr 1 (.t 138) (.c (.int .i64 0)))⟩,
        ⟨(some 140), (some (133, true)), (.ld false 1 (.t 139))⟩,
        ⟨(some 141), (some (133, true)), (.mv (.t 9))⟩,
        ⟨(some 142), (some (133, true)), (.bin .eql (.t 140) (.t 141))⟩,
        ⟨(some 143), none, (.pick (.t 133) (.t 142) (.c (.bool false)))⟩,
        ⟨(some 144), none, (.mv (.t 143))⟩,
        ⟨(some 145), (some (144, true)), (.call 31 [])⟩,
        ⟨(some 146), none, (.pick (.t 144) (.t 145) (.c (.bool false)))⟩,
        ⟨(some 4), none, (.mv (.t 146))⟩] [112, 113, 114, 115, 116, 117, 118, 119, 120, 121, 122, 123, 124, 125, 126, 127, 128, 129, 130, 131, 132, 133, 134, 135, 136, 137, 138, 139, 140, 141, 142, 143, 144, 145, 146] [[], [0], [], [2], [1, 0, 3, 2], [4, 2, 3, 0, 1], [5, 1, 0, 3, 2, 4], [5, 1, 0, 3, 2, 4], [6, 7, 5, 1, 0, 3, 2, 4], [8, 7, 6, 5, 1, 0, 3, 2, 4], [9, 6, 7, 8, 5, 1, 0, 3, 2, 4], [10, 8, 7, 6, 9, 5, 1, 0, 3, 2, 4], [5, 1, 0, 3, 2, 4], [5, 1, 0, 3, 2, 4], [12, 13, 5, 1, 0, 3, 2, 4], [14, 13, 12, 5, 1, 0, 3, 2, 4], [15, 12, 13, 14, 5, 1, 0, 3, 2, 4], [16, 14, 13, 12, 15, 5, 1, 0, 3, 2, 4], [17, 15, 12, 13, 14, 16, 5, 1, 0, 3, 2, 4], [11, 9, 6, 7, 8, 10, 18, 16, 14, 13, 12, 15, 17, 5, 1, 0, 3, 2, 4], [19, 4, 2, 3, 0, 1, 5, 17, 15, 12, 13, 14, 16, 18, 10, 8, 7, 6, 9, 11], [20, 11, 9, 6, 7, 8, 10, 18, 16, 14, 13, 12, 15, 17, 19, 5, 1, 0, 3, 2, 4], [21, 4, 2, 3, 0, 1, 5, 19, 17, 15, 12, 13, 14, 16, 18, 10, 8, 7, 6, 9, 11, 20], [21, 4, 2, 3, 0, 1, 5, 19, 17, 15, 12, 13, 14, 16, 18, 10, 8, 7, 6, 9, 11, 20], [22, 23, 21, 4, 2, 3, 0, 1, 5, 19, 17, 15, 12, 13, 14, 16, 18, 10, 8, 7, 6, 9, 11, 20], [24, 23, 22, 21, 4, 2, 3, 0, 1, 5, 19, 17, 15, 12, 13, 14, 16, 18, 10, 8, 7, 6, 9, 11, 20], [25, 22, 23, 24, 21, 4, 2, 3, 0, 1, 5, 19, 17, 15, 12, 13, 14, 16, 18, 10, 8, 7, 6, 9, 11, 20], [26, 24, 23, 22, 25, 21, 4, 2, 3, 0, 1, 5, 19, 17, 15, 12, 13, 14, 16, 18, 10, 8, 7, 6, 9, 11, 20], [27, 25, 22, 23, 24, 26, 21, 4, 2, 3, 0, 1, 5, 19, 17, 15, 12, 13, 14, 16, 18, 10, 8, 7, 6, 9, 11, 20], [21, 4, 2, 3, 0, 1, 5, 19, 17, 15, 12, 13, 14, 16, 18, 10, 8, 7, 6, 9, 11, 20], [28, 26, 24, 23, 22, 25, 27, 29, 21, 4, 2, 3, 0, 1, 5, 19, 17, 15, 12, 13, 14, 16, 18, 10, 8, 7, 6, 9, 11, 20], [30, 20, 11, 9, 6, 7, 8, 10, 18, 16, 14, 13, 12, 15, 17, 19, 5, 1, 0, 3, 2, 4, 21, 29, 27, 25, 22, 23, 24, 26, 28], [31, 28, 26, 24, 23, 22, 25, 27, 29, 30, 21, 4, 2, 3, 0, 1, 5, 19, 17, 15, 12, 13, 14, 16, 18, 10, 8, 7, 6, 9, 11, 20], [32, 20, 11, 9, 6, 7, 8, 10, 18, 16, 14, 13, 12, 15, 17, 19, 5, 1, 0, 3, 2, 4, 21, 30, 29, 27, 25, 22, 23, 24, 26, 28, 31], [33, 31, 28, 26, 24, 23, 22, 25, 27, 29, 30, 21, 4, 2, 3, 0, 1, 5, 19, 17, 15, 12, 13, 14, 16, 18, 10, 8, 7, 6, 9, 11, 20, 32], [34, 32, 20, 11, 9, 6, 7, 8, 10, 18, 16, 14, 13, 12, 15, 17, 19, 5, 1, 0, 3, 2, 4, 21, 30, 29, 27, 25, 22, 23, 24, 26, 28, 31, 33]] [14336, 14352, 14368, 14384, 14400, 14416, 14432, 14448, 14464, 14480, 14496, 14512, 14528, 14544, 14560, 14576, 14592, 14608, 14624, 14640, 14656, 14672, 14688, 14704, 14720, 14736, 14752, 14768, 14784, 14800, 14816, 14832, 14848, 14864, 14880, 14896])
      .ret)
      .skip))))))
    (.reg [⟨(some 36), none, (.mv (.t 11))⟩,
      ⟨(some 37), none, (.bin .sub (.t 36) (.c (.int .i64 1)))⟩,
      ⟨(some 11), none, (.mv (.t 37))⟩] [36, 37]))))))
  (.seq
  (.reg [⟨(some 147), none, (.mv (.t 10))⟩,
    ⟨(some 148), none, (.bin .eql (.t 147) (.c (.int .i64 3)))⟩,
    ⟨(some 149), none, (.mv (.t 148))⟩,
    ⟨(some 150), (some (149, true)), (.call 31 [])⟩,
    ⟨(some 151), none, (.pick (.t 149) (.t 150) (.c (.bool false)))⟩,
    ⟨(some 4), none, (.mv (.t 151))⟩] [147, 148, 149, 150, 151])
  .ret)))))))
theorem rcq7 : resC Go.Proofs.Try.prog Go.Proofs.Try.f7.ntmps ((Go.Proofs.Try.f7.body).getD .skip) = some (strip rc7) := by kernel_rfl
def rv7 : List RV := [(.tmp 4)]
theorem rvq7 : Go.Proofs.Try.f7.results.toList.mapM (resRV Go.Proofs.Try.prog) = some rv7 := by kernel_rfl

theorem ChZ.apart : ∀ {l : List Zn} {f : Int}, ChZ f l → ∀ (i j : Nat) (hij : i < j) (hj : j < l.length), (l[i]'(by omega)).first + (l[i]'(by omega)).size ≤ l[j].first
  | z :: r, f, h, 0, j + 1, _, hj => by
    have := (h.2.get j (by simpa using hj)).2
    have e := h.1.first
    simp only [List.getElem_cons_zero, List.getElem_cons_succ]
    omega
  | z :: r, f, h, i + 1, j + 1, hij, hj => by
    simp only [List.getElem_cons_succ]
    exact ChZ.apart h.2 i j (by omega) (by simpa using hj)
structure FbI (x : List Zn) (p : Int) (u : Bool) (y : List Zn) (f e : Int) : Prop where
  k1 : ∀ (j : Nat) (h : j < x.length), p < j → ¬ (e = 0 ∧ x[j].first ≤ f ∧ f < x[j].first + x[j].size)
  k2 : ∀ (j : Nat) (h : j < x.length), (j : Int) ≤ p → hasZ u x[j] = true → (∀ (i : Nat) (hi : i < x.length), j < i → (i : Int) ≤ p → hasZ u x[i] = false) →
    (e = 0 ∧ x[j].first ≤ f ∧ f < x[j].first + x[j].size) ∧ x[j].free.getD 0 0 = f ∧ 0 < x[j].free.length ∧ y.length = x.length ∧ ∀ hy : j < y.length, (y[j].free.length : Int) = x[j].free.length - 1
  k3 : (∀ (j : Nat) (h : j < x.length), (j : Int) ≤ p → hasZ u x[j] = false) → e = 3
theorem FbI.mk' {x : List Zn} {p : Int} {u : Bool} (h : checkZ x = true) (h0 : 0 ≤ p) (h1 : p < x.length) : FbI x p u (takeG (x.map exZ) x p u).1 (takeG (x.map exZ) x p u).2.1 (takeG (x.map exZ) x p u).2.2 := by
  have hc := (check_iff x).1 h
  have key := takeG_R (base := x.map exZ) (p := p) (u := u) h
  generalize takeG (x.map exZ) x p u = q at key ⊢
  cases key with
  | range hr => omega
  | full _ _ h3 =>
    have hz : ∀ (j : Nat) (h : j < x.length), (j : Int) ≤ p → hasZ u x[j] = false := fun j hj hp => by rw [← getZ x j hj]; exact h3 j hp
    exact ⟨fun j hj _ hh => absurd hh.1 (by show ¬ (3 : Int) = 0; decide), fun j hj hp hh _ => (by rw [hz j hj hp] at hh; cases hh), fun _ => rfl⟩
  | ok _ _ i hi hp hz hn =>
    obtain ⟨g, -⟩ := hc.1.get i hi
    have hpos : 0 < x[i].free.length := by
      have := g.marks
      cases u with
      | true => exact List.length_pos_iff.2 ((hasZ_urgent _).1 hz)
      | false => rw [hasZ_calm, decide_eq_true_eq] at hz; omega
    have hin := g.free.inn (x[i].free.getD 0 0) (by rw [← getI _ 0 hpos]; exact List.getElem_mem hpos)
    refine ⟨fun j hj hpj hh => ?_, fun j hj hjp hh hno => ?_, fun hno => ?_⟩
    · have := hc.1.apart i j (by omega) hj
      have := hh.2.1
      have e : ((x.map exZ).set i (takenZ x[i]), x[i].free.getD 0 0, (0 : Int)).2.1 = x[i].free.getD 0 0 := rfl
      rw [e] at this
      omega
    · have e : j = i := by
        rcases Nat.lt_trichotomy j i with hlt | he | hgt
        · rw [hno i hi hlt hp] at hz; cases hz
        · exact he
        · have := hn j hgt hjp
          rw [getZ x j hj, hh] at this; cases this
      subst e
      refine ⟨⟨rfl, hin⟩, rfl, hpos, by show ((x.map exZ).set _ _).length = _; simp, fun hy => ?_⟩
      simp only [List.getElem_set_self]
      show ((x[j].free.drop 1).length : Int) = _
      rw [List.length_drop]; omega
    · rw [hno i hi hp] at hz; cases hz
set_option maxRecDepth 20000 in
set_option maxHeartbeats 1000000 in
theorem ok7 (L : List Int) (u : Bool) (hL : (L.length : Int) < 2 ^ 62) : FnC Try.prog 7 [] [.lst 1 false (rowsI L), .bool u] (.bool true) [] := by
  refine fn_okC (ob0 := []) (rc := rc7) (rvs := rv7) Try.func7 rfl rcq7 rvq7 (show 2 ≤ _ by decide) ?_
  obtain ⟨hc, hJ⟩ := zonesF_ok L 0 (by omega)
  repeat ((conv => whnf); first | refine Cd.seq ?_ | refine Cd.cut ?_ | refine Cd.reg ?_ | refine Cd.block ?_ | refine Cd.cond ?_ | refine Cd.dreg ?_ | refine Cd.skip ?_ | refine Cd.ret ?_ | refine Cd.exit ?_ | refine Cd.loop ?_ | refine ⟨rfl, ?_⟩ | refine ⟨Nat.le_of_ble_eq_true rfl, ?_⟩ | refine ⟨.inl rfl, ?_⟩ | refine ⟨fun h => Bool.noConfusion h, ?_⟩ | refine .inr ⟨fun _ => ⟨[0], _, _, _, ok16n L _ _ hL (by omega) (by omega) (by omega), ⟨rfl, rfl, trivial⟩, rfl, rfl, rfl, rfl, ?_⟩, (by intro h; cases h)⟩ | refine .inr ⟨fun _ => ⟨[0], _, _, _, ok34 L _ hL (by omega), ⟨rfl, rfl, trivial⟩, rfl, rfl, rfl, rfl, ?_⟩, (by intro h; cases h)⟩)
  conv => whnf
  refine .inr ⟨fun _ => ⟨[0], _, _, _, ok34 L 0 hL (by omega), ⟨rfl, rfl, trivial⟩, rfl, rfl, rfl, rfl, ?_⟩, (by intro h; cases h)⟩
  generalize (zonesF L 0).1 = x at hc ⊢
  generalize (zonesF L 0).2 = J at hJ ⊢
  have hsm := check_small hc
  have hln := check_len hc
  have hch := ((check_iff x).1 hc).1
  have hJ1 := nxI_in L J hJ
  have hp := nxV_in L J x.length (by omega) (by omega)
  repeat ((conv => whnf); first | refine Cd.seq ?_ | refine Cd.cut ?_ | refine Cd.reg ?_ | refine Cd.block ?_ | refine Cd.cond ?_ | refine Cd.dreg ?_ | refine Cd.skip ?_ | refine Cd.ret ?_ | refine Cd.exit ?_ | refine Cd.loop ?_ | refine ⟨rfl, ?_⟩ | refine ⟨Nat.le_of_ble_eq_true rfl, ?_⟩ | refine ⟨.inl rfl, ?_⟩ | refine ⟨fun h => Bool.noConfusion h, ?_⟩ | refine .inr ⟨fun _ => ⟨[0], _, _, _, ok16n L _ _ hL (by omega) (by omega) (by omega), ⟨rfl, rfl, trivial⟩, rfl, rfl, rfl, rfl, ?_⟩, (by intro h; cases h)⟩ | refine .inr ⟨fun _ => ⟨[0], _, _, _, ok34 L _ hL (by omega), ⟨rfl, rfl, trivial⟩, rfl, rfl, rfl, rfl, ?_⟩, (by intro h; cases h)⟩)
  conv => whnf
  rw [rowsZ_len]
  repeat ((conv => whnf); first | refine Cd.seq ?_ | refine Cd.cut ?_ | refine Cd.reg ?_ | refine Cd.block ?_ | refine Cd.cond ?_ | refine Cd.dreg ?_ | refine Cd.skip ?_ | refine Cd.ret ?_ | refine Cd.exit ?_ | refine Cd.loop ?_ | refine ⟨rfl, ?_⟩ | refine ⟨Nat.le_of_ble_eq_true rfl, ?_⟩ | refine ⟨.inl rfl, ?_⟩ | refine ⟨fun h => Bool.noConfusion h, ?_⟩ | refine .inr ⟨fun _ => ⟨[0], _, _, _, ok16n L _ _ hL (by omega) (by omega) (by omega), ⟨rfl, rfl, trivial⟩, rfl, rfl, rfl, rfl, ?_⟩, (by intro h; cases h)⟩ | refine .inr ⟨fun _ => ⟨[0], _, _, _, ok34 L _ hL (by omega), ⟨rfl, rfl, trivial⟩, rfl, rfl, rfl, rfl, ?_⟩, (by intro h; cases h)⟩)
  conv => whnf
  generalize nxV L J x.length = p at hp ⊢
  have hF := FbI.mk' (u := u) hc hp.1 hp.2
  have hys := takeG_small (p := p) (u := u) hsm.ex (SimZ.ex x)
  repeat ((conv => whnf); first | refine Cd.seq ?_ | refine Cd.cut ?_ | refine Cd.reg ?_ | refine Cd.block ?_ | refine Cd.cond ?_ | refine Cd.dreg ?_ | refine Cd.skip ?_ | refine Cd.ret ?_ | refine Cd.exit ?_ | refine Cd.loop ?_ | refine ⟨rfl, ?_⟩ | refine ⟨Nat.le_of_ble_eq_true rfl, ?_⟩ | refine ⟨.inl rfl, ?_⟩ | refine ⟨fun h => Bool.noConfusion h, ?_⟩ | refine .inl ⟨_, fun _ => ⟨purA rfl, (by first | exact ok18 x false p u hsm)⟩, .inl rfl, ?_⟩ | refine .inr ⟨fun _ => ⟨[0], _, _, _, ok16n L _ _ hL (by omega) (by omega) (by omega), ⟨rfl, rfl, trivial⟩, rfl, rfl, rfl, rfl, ?_⟩, (by intro h; cases h)⟩ | refine .inr ⟨fun _ => ⟨[0], _, _, _, ok34 L _ hL (by omega), ⟨rfl, rfl, trivial⟩, rfl, rfl, rfl, rfl, ?_⟩, (by intro h; cases h)⟩)
  conv => whnf
  generalize takeG (x.map exZ) x p u = q at hF hys ⊢
  obtain ⟨y, f, e⟩ := q
  dsimp only at hF hys ⊢
  rw [rowsZ_len, wrapI (n := (x.length : Int) - 1) (by omega) (by omega)]
  refine ⟨Int, fun i => (-1 ≤ i ∧ i < x.length) ∧ ∀ (j : Nat) (hj : j < x.length), i < j → (j : Int) ≤ p → hasZ u x[j] = false, fun i => ⟨[(1, ⟨[], true, .bool u⟩), (6, ⟨[], true, .lst 6 false (rowsZ x)⟩), (7, ⟨[], true, .int .i64 p⟩), (8, ⟨[], true, .lst 6 false (rowsZ y)⟩), (9, ⟨[], true, .int .i64 f⟩), (10, ⟨[], true, .int .i64 e⟩), (11, ⟨[], true, .int .i64 i⟩)], [], 0⟩, fun i => (i + 1).toNat,
    ⟨(x.length : Int) - 1, ⟨by omega, fun j hj h => by omega⟩, ?_⟩, fun i hi => ?_⟩
  · refine viewI [] rfl rfl ?_ rfl ?_ rfl ?_
    repeat' (first | exact trivial | rfl | exact .inl rfl | exact .inr rfl | exact id | exact (fun h => Bool.noConfusion h) | refine And.intro ?_ ?_)
  obtain ⟨hi1, hi2⟩ := hi
  repeat ((conv => whnf); first | refine Cd.seq ?_ | refine Cd.cut ?_ | refine Cd.reg ?_ | refine Cd.block ?_ | refine Cd.cond ?_ | refine Cd.dreg ?_ | refine Cd.skip ?_ | refine Cd.ret ?_ | refine Cd.exit ?_ | refine Cd.loop ?_ | refine ⟨rfl, ?_⟩ | refine ⟨Nat.le_of_ble_eq_true rfl, ?_⟩ | refine ⟨.inl rfl, ?_⟩ | refine ⟨fun h => Bool.noConfusion h, ?_⟩ | refine .inr ⟨fun _ => ⟨[0], _, _, _, ok16n L _ _ hL (by omega) (by omega) (by omega), ⟨rfl, rfl, trivial⟩, rfl, rfl, rfl, rfl, ?_⟩, (by intro h; cases h)⟩ | refine .inr ⟨fun _ => ⟨[0], _, _, _, ok34 L _ hL (by omega), ⟨rfl, rfl, trivial⟩, rfl, rfl, rfl, rfl, ?_⟩, (by intro h; cases h)⟩)
  conv => whnf
  refine ⟨fun h1 => ?_, fun h1 => ?_⟩ <;> try simp only [Bool.cond_true_left, Bool.cond_false_right, Bool.not_eq_true', Bool.not_eq_false', Bool.not_not] at h1
  · have h1 : 0 ≤ i := by simpa using h1
    obtain ⟨i, rfl⟩ : ∃ n : Nat, i = n := ⟨i.toNat, by omega⟩
    have hix : i < x.length := by omega
    obtain ⟨g, -⟩ := hch.get i hix
    have hg := check_good hc x[i] (List.getElem_mem hix)
    repeat ((conv => whnf); first | refine Cd.seq ?_ | refine Cd.cut ?_ | refine Cd.reg ?_ | refine Cd.block ?_ | refine Cd.cond ?_ | refine Cd.dreg ?_ | refine Cd.skip ?_ | refine Cd.ret ?_ | refine Cd.exit ?_ | refine Cd.loop ?_ | refine ⟨rfl, ?_⟩ | refine ⟨Nat.le_of_ble_eq_true rfl, ?_⟩ | refine ⟨.inl rfl, ?_⟩ | refine ⟨fun h => Bool.noConfusion h, ?_⟩ | refine .inr ⟨fun _ => ⟨[0], _, _, _, ok16n L _ _ hL (by omega) (by omega) (by omega), ⟨rfl, rfl, trivial⟩, rfl, rfl, rfl, rfl, ?_⟩, (by intro h; cases h)⟩ | refine .inr ⟨fun _ => ⟨[0], _, _, _, ok34 L _ hL (by omega), ⟨rfl, rfl, trivial⟩, rfl, rfl, rfl, rfl, ?_⟩, (by intro h; cases h)⟩)
    conv => whnf
    refine ⟨fun _ => ⟨rfl, by omega, by rw [rowsZ_len]; omega⟩, ?_⟩
    rw [Int.toNat_natCast, rowsZ_get x i hix]
    repeat ((conv => whnf); first | refine Cd.seq ?_ | refine Cd.cut ?_ | refine Cd.reg ?_ | refine Cd.block ?_ | refine Cd.cond ?_ | refine Cd.dreg ?_ | refine Cd.skip ?_ | refine Cd.ret ?_ | refine Cd.exit ?_ | refine Cd.loop ?_ | refine ⟨rfl, ?_⟩ | refine ⟨Nat.le_of_ble_eq_true rfl, ?_⟩ | refine ⟨.inl rfl, ?_⟩ | refine ⟨fun h => Bool.noConfusion h, ?_⟩ | refine .inr ⟨fun _ => ⟨[0], _, _, _, ok16n L _ _ hL (by omega) (by omega) (by omega), ⟨rfl, rfl, trivial⟩, rfl, rfl, rfl, rfl, ?_⟩, (by intro h; cases h)⟩ | refine .inr ⟨fun _ => ⟨[0], _, _, _, ok34 L _ hL (by omega), ⟨rfl, rfl, trivial⟩, rfl, rfl, rfl, rfl, ?_⟩, (by intro h; cases h)⟩)
    conv => whnf
    refine ⟨fun _ => ⟨rfl, by omega, by rw [rowsZ_len]; omega⟩, ?_⟩
    rw [Int.toNat_natCast, rowsZ_get x i hix]
    repeat ((conv => whnf); first | refine Cd.seq ?_ | refine Cd.cut ?_ | refine Cd.reg ?_ | refine Cd.block ?_ | refine Cd.cond ?_ | refine Cd.dreg ?_ | refine Cd.skip ?_ | refine Cd.ret ?_ | refine Cd.exit ?_ | refine Cd.loop ?_ | refine ⟨rfl, ?_⟩ | refine ⟨Nat.le_of_ble_eq_true rfl, ?_⟩ | refine ⟨.inl rfl, ?_⟩ | refine ⟨fun h => Bool.noConfusion h, ?_⟩ | refine .inr ⟨fun _ => ⟨[0], _, _, _, ok16n L _ _ hL (by omega) (by omega) (by omega), ⟨rfl, rfl, trivial⟩, rfl, rfl, rfl, rfl, ?_⟩, (by intro h; cases h)⟩ | refine .inr ⟨fun _ => ⟨[0], _, _, _, ok34 L _ hL (by omega), ⟨rfl, rfl, trivial⟩, rfl, rfl, rfl, rfl, ?_⟩, (by intro h; cases h)⟩)
    conv => whnf
    refine ⟨fun _ => ⟨rfl, by omega, by rw [rowsZ_len]; omega⟩, ?_⟩
    rw [Int.toNat_natCast, rowsZ_get x i hix]
    repeat ((conv => whnf); first | refine Cd.seq ?_ | refine Cd.cut ?_ | refine Cd.reg ?_ | refine Cd.block ?_ | refine Cd.cond ?_ | refine Cd.dreg ?_ | refine Cd.skip ?_ | refine Cd.ret ?_ | refine Cd.exit ?_ | refine Cd.loop ?_ | refine ⟨rfl, ?_⟩ | refine ⟨Nat.le_of_ble_eq_true rfl, ?_⟩ | refine ⟨.inl rfl, ?_⟩ | refine ⟨fun h => Bool.noConfusion h, ?_⟩ | refine .inr ⟨fun _ => ⟨[0], _, _, _, ok16n L _ _ hL (by omega) (by omega) (by omega), ⟨rfl, rfl, trivial⟩, rfl, rfl, rfl, rfl, ?_⟩, (by intro h; cases h)⟩ | refine .inr ⟨fun _ => ⟨[0], _, _, _, ok34 L _ hL (by omega), ⟨rfl, rfl, trivial⟩, rfl, rfl, rfl, rfl, ?_⟩, (by intro h; cases h)⟩)
    conv => whnf
    refine ⟨fun _ => ⟨rfl, by omega, by rw [rowsZ_len]; omega⟩, ?_⟩
    rw [Int.toNat_natCast, rowsZ_get x i hix]
    repeat ((conv => whnf); first | refine Cd.seq ?_ | refine Cd.cut ?_ | refine Cd.reg ?_ | refine Cd.block ?_ | refine Cd.cond ?_ | refine Cd.dreg ?_ | refine Cd.skip ?_ | refine Cd.ret ?_ | refine Cd.exit ?_ | refine Cd.loop ?_ | refine ⟨rfl, ?_⟩ | refine ⟨Nat.le_of_ble_eq_true rfl, ?_⟩ | refine ⟨.inl rfl, ?_⟩ | refine ⟨fun h => Bool.noConfusion h, ?_⟩ | refine .inr ⟨fun _ => ⟨[0], _, _, _, ok16n L _ _ hL (by omega) (by omega) (by omega), ⟨rfl, rfl, trivial⟩, rfl, rfl, rfl, rfl, ?_⟩, (by intro h; cases h)⟩ | refine .inr ⟨fun _ => ⟨[0], _, _, _, ok34 L _ hL (by omega), ⟨rfl, rfl, trivial⟩, rfl, rfl, rfl, rfl, ?_⟩, (by intro h; cases h)⟩)
    conv => whnf
    refine ⟨fun _ => ⟨rfl, by omega, by rw [rowsZ_len]; omega⟩, ?_⟩
    rw [Int.toNat_natCast, rowsZ_get x i hix]
    repeat ((conv => whnf); first | refine Cd.seq ?_ | refine Cd.cut ?_ | refine Cd.reg ?_ | refine Cd.block ?_ | refine Cd.cond ?_ | refine Cd.dreg ?_ | refine Cd.skip ?_ | refine Cd.ret ?_ | refine Cd.exit ?_ | refine Cd.loop ?_ | refine ⟨rfl, ?_⟩ | refine ⟨Nat.le_of_ble_eq_true rfl, ?_⟩ | refine ⟨.inl rfl, ?_⟩ | refine ⟨fun h => Bool.noConfusion h, ?_⟩ | refine .inr ⟨fun _ => ⟨[0], _, _, _, ok16n L _ _ hL (by omega) (by omega) (by omega), ⟨rfl, rfl, trivial⟩, rfl, rfl, rfl, rfl, ?_⟩, (by intro h; cases h)⟩ | refine .inr ⟨fun _ => ⟨[0], _, _, _, ok34 L _ hL (by omega), ⟨rfl, rfl, trivial⟩, rfl, rfl, rfl, rfl, ?_⟩, (by intro h; cases h)⟩)
    conv => whnf
    refine ⟨fun _ => ⟨rfl, by omega, by rw [rowsZ_len]; omega⟩, ?_⟩
    rw [Int.toNat_natCast, rowsZ_get x i hix]
    repeat ((conv => whnf); first | refine Cd.seq ?_ | refine Cd.cut ?_ | refine Cd.reg ?_ | refine Cd.block ?_ | refine Cd.cond ?_ | refine Cd.dreg ?_ | refine Cd.skip ?_ | refine Cd.ret ?_ | refine Cd.exit ?_ | refine Cd.loop ?_ | refine ⟨rfl, ?_⟩ | refine ⟨Nat.le_of_ble_eq_true rfl, ?_⟩ | refine ⟨.inl rfl, ?_⟩ | refine ⟨fun h => Bool.noConfusion h, ?_⟩ | refine .inr ⟨fun _ => ⟨[0], _, _, _, ok16n L _ _ hL (by omega) (by omega) (by omega), ⟨rfl, rfl, trivial⟩, rfl, rfl, rfl, rfl, ?_⟩, (by intro h; cases h)⟩ | refine .inr ⟨fun _ => ⟨[0], _, _, _, ok34 L _ hL (by omega), ⟨rfl, rfl, trivial⟩, rfl, rfl, rfl, rfl, ?_⟩, (by intro h; cases h)⟩)
    conv => whnf
    have hl0 : ((rowsI x[i].free).length : Int) = x[i].free.length := by rw [rowsI_len]
    have hH : (bif decide (x[i].min < ((rowsI x[i].free).length : Int)) then true else bif u then decide (0 < ((rowsI x[i].free).length : Int)) else false) = hasZ u x[i] := by
      rw [hl0, ← hasZ_ref hg]
      cases decide (x[i].min < (x[i].free.length : Int)) <;> cases u <;> rfl
    have hst := g.stop
    have hsz := g.size
    have hfi := (hch.get i hix).2
    have hN : (bif bif e == 0 then decide (x[i].first ≤ f) else false then decide (f < IntKind.i64.wrap (x[i].first + x[i].size)) else false) = decide (e = 0 ∧ x[i].first ≤ f ∧ f < x[i].first + x[i].size) := by
      rw [wrapI (by omega) (by omega)]
      by_cases c1 : e = 0 <;> by_cases c2 : x[i].first ≤ f <;> by_cases c3 : f < x[i].first + x[i].size <;> simp [c1, c2, c3]
    rw [hH, hN]
    by_cases hpi : p < i
    · have hn1 := hF.k1 i hix hpi
      rw [show decide (p < (i : Int)) = true by simpa using hpi, show decide ((i : Int) ≤ p) = false by simpa using hpi, show decide (e = 0 ∧ x[i].first ≤ f ∧ f < x[i].first + x[i].size) = false by simpa using hn1]
      repeat ((conv => whnf); first | refine Cd.seq ?_ | refine Cd.cut ?_ | refine Cd.reg ?_ | refine Cd.block ?_ | refine Cd.cond ?_ | refine Cd.dreg ?_ | refine Cd.skip ?_ | refine Cd.ret ?_ | refine Cd.exit ?_ | refine Cd.loop ?_ | refine ⟨rfl, ?_⟩ | refine ⟨Nat.le_of_ble_eq_true rfl, ?_⟩ | refine ⟨.inl rfl, ?_⟩ | refine ⟨fun h => Bool.noConfusion h, ?_⟩ | refine ⟨?_, fun h => Bool.noConfusion h⟩ | refine fun (_ : false = false) => ?_ | refine fun (_ : true = true) => ?_ | refine .inr ⟨fun _ => ⟨[0], _, _, _, ok16n L _ _ hL (by omega) (by omega) (by omega), ⟨rfl, rfl, trivial⟩, rfl, rfl, rfl, rfl, ?_⟩, (by intro h; cases h)⟩ | refine .inr ⟨fun _ => ⟨[0], _, _, _, ok34 L _ hL (by omega), ⟨rfl, rfl, trivial⟩, rfl, rfl, rfl, rfl, ?_⟩, (by intro h; cases h)⟩)
      conv => whnf
      rw [show decide ((i : Int) ≤ p) = false by simpa using hpi]
      repeat ((conv => whnf); first | refine Cd.seq ?_ | refine Cd.cut ?_ | refine Cd.reg ?_ | refine Cd.block ?_ | refine Cd.cond ?_ | refine Cd.dreg ?_ | refine Cd.skip ?_ | refine Cd.ret ?_ | refine Cd.exit ?_ | refine Cd.loop ?_ | refine ⟨rfl, ?_⟩ | refine ⟨Nat.le_of_ble_eq_true rfl, ?_⟩ | refine ⟨.inl rfl, ?_⟩ | refine ⟨fun h => Bool.noConfusion h, ?_⟩ | refine ⟨?_, fun h => Bool.noConfusion h⟩ | refine fun (_ : false = false) => ?_ | refine fun (_ : true = true) => ?_ | refine .inr ⟨fun _ => ⟨[0], _, _, _, ok16n L _ _ hL (by omega) (by omega) (by omega), ⟨rfl, rfl, trivial⟩, rfl, rfl, rfl, rfl, ?_⟩, (by intro h; cases h)⟩ | refine .inr ⟨fun _ => ⟨[0], _, _, _, ok34 L _ hL (by omega), ⟨rfl, rfl, trivial⟩, rfl, rfl, rfl, rfl, ?_⟩, (by intro h; cases h)⟩)
      conv => whnf
      rw [wrapI (n := (i : Int) - 1) (by omega) (by omega)]
      refine ⟨(i : Int) - 1, ⟨by omega, fun j hj h1 h2 => hi2 j hj (by omega) h2⟩, ?_, by show ((i : Int) - 1 + 1).toNat < ((i : Int) + 1).toNat; omega⟩
      refine viewI [] rfl rfl ?_ rfl ?_ rfl ?_
      repeat' (first | exact trivial | rfl | exact .inl rfl | exact .inr rfl | exact id | exact (fun h => Bool.noConfusion h) | refine And.intro ?_ ?_)
    rw [show decide (p < (i : Int)) = false by simpa using hpi, show decide ((i : Int) ≤ p) = true by simp; omega]
    cases hh : hasZ u x[i] with
    | false =>
      repeat ((conv => whnf); first | refine Cd.seq ?_ | refine Cd.cut ?_ | refine Cd.reg ?_ | refine Cd.block ?_ | refine Cd.cond ?_ | refine Cd.dreg ?_ | refine Cd.skip ?_ | refine Cd.ret ?_ | refine Cd.exit ?_ | refine Cd.loop ?_ | refine ⟨rfl, ?_⟩ | refine ⟨Nat.le_of_ble_eq_true rfl, ?_⟩ | refine ⟨.inl rfl, ?_⟩ | refine ⟨fun h => Bool.noConfusion h, ?_⟩ | refine ⟨?_, fun h => Bool.noConfusion h⟩ | refine fun (_ : false = false) => ?_ | refine fun (_ : true = true) => ?_ | refine .inr ⟨fun _ => ⟨[0], _, _, _, ok16n L _ _ hL (by omega) (by omega) (by omega), ⟨rfl, rfl, trivial⟩, rfl, rfl, rfl, rfl, ?_⟩, (by intro h; cases h)⟩ | refine .inr ⟨fun _ => ⟨[0], _, _, _, ok34 L _ hL (by omega), ⟨rfl, rfl, trivial⟩, rfl, rfl, rfl, rfl, ?_⟩, (by intro h; cases h)⟩)
      conv => whnf
      rw [show decide ((i : Int) ≤ p) = true by simp; omega]
      repeat ((conv => whnf); first | refine Cd.seq ?_ | refine Cd.cut ?_ | refine Cd.reg ?_ | refine Cd.block ?_ | refine Cd.cond ?_ | refine Cd.dreg ?_ | refine Cd.skip ?_ | refine Cd.ret ?_ | refine Cd.exit ?_ | refine Cd.loop ?_ | refine ⟨rfl, ?_⟩ | refine ⟨Nat.le_of_ble_eq_true rfl, ?_⟩ | refine ⟨.inl rfl, ?_⟩ | refine ⟨fun h => Bool.noConfusion h, ?_⟩ | refine ⟨?_, fun h => Bool.noConfusion h⟩ | refine fun (_ : false = false) => ?_ | refine fun (_ : true = true) => ?_ | refine .inr ⟨fun _ => ⟨[0], _, _, _, ok16n L _ _ hL (by omega) (by omega) (by omega), ⟨rfl, rfl, trivial⟩, rfl, rfl, rfl, rfl, ?_⟩, (by intro h; cases h)⟩ | refine .inr ⟨fun _ => ⟨[0], _, _, _, ok34 L _ hL (by omega), ⟨rfl, rfl, trivial⟩, rfl, rfl, rfl, rfl, ?_⟩, (by intro h; cases h)⟩)
      conv => whnf
      rw [wrapI (n := (i : Int) - 1) (by omega) (by omega)]
      refine ⟨(i : Int) - 1, ⟨by omega, fun j hj h1 h2 => ?_⟩, ?_, by show ((i : Int) - 1 + 1).toNat < ((i : Int) + 1).toNat; omega⟩
      · by_cases ej : j = i
        · subst ej; exact hh
        · exact hi2 j hj (by omega) h2
      refine viewI [] rfl rfl ?_ rfl ?_ rfl ?_
      repeat' (first | exact trivial | rfl | exact .inl rfl | exact .inr rfl | exact id | exact (fun h => Bool.noConfusion h) | refine And.intro ?_ ?_)
    | true =>
      obtain ⟨c1, c2, c3, c4, c5⟩ := hF.k2 i hix (by omega) hh fun j hj h1 h2 => hi2 j hj (by omega) h2
      rw [show decide (e = 0 ∧ x[i].first ≤ f ∧ f < x[i].first + x[i].size) = true by simpa using c1]
      repeat ((conv => whnf); first | refine Cd.seq ?_ | refine Cd.cut ?_ | refine Cd.reg ?_ | refine Cd.block ?_ | refine Cd.cond ?_ | refine Cd.dreg ?_ | refine Cd.skip ?_ | refine Cd.ret ?_ | refine Cd.exit ?_ | refine Cd.loop ?_ | refine ⟨rfl, ?_⟩ | refine ⟨Nat.le_of_ble_eq_true rfl, ?_⟩ | refine ⟨.inl rfl, ?_⟩ | refine ⟨fun h => Bool.noConfusion h, ?_⟩ | refine ⟨?_, fun h => Bool.noConfusion h⟩ | refine fun (_ : false = false) => ?_ | refine fun (_ : true = true) => ?_ | refine .inr ⟨fun _ => ⟨[0], _, _, _, ok16n L _ _ hL (by omega) (by omega) (by omega), ⟨rfl, rfl, trivial⟩, rfl, rfl, rfl, rfl, ?_⟩, (by intro h; cases h)⟩ | refine .inr ⟨fun _ => ⟨[0], _, _, _, ok34 L _ hL (by omega), ⟨rfl, rfl, trivial⟩, rfl, rfl, rfl, rfl, ?_⟩, (by intro h; cases h)⟩)
      conv => whnf
      rw [show decide ((i : Int) ≤ p) = true by simp; omega]
      repeat ((conv => whnf); first | refine Cd.seq ?_ | refine Cd.cut ?_ | refine Cd.reg ?_ | refine Cd.block ?_ | refine Cd.cond ?_ | refine Cd.dreg ?_ | refine Cd.skip ?_ | refine Cd.ret ?_ | refine Cd.exit ?_ | refine Cd.loop ?_ | refine ⟨rfl, ?_⟩ | refine ⟨Nat.le_of_ble_eq_true rfl, ?_⟩ | refine ⟨.inl rfl, ?_⟩ | refine ⟨fun h => Bool.noConfusion h, ?_⟩ | refine ⟨?_, fun h => Bool.noConfusion h⟩ | refine fun (_ : false = false) => ?_ | refine fun (_ : true = true) => ?_ | refine .inr ⟨fun _ => ⟨[0], _, _, _, ok16n L _ _ hL (by omega) (by omega) (by omega), ⟨rfl, rfl, trivial⟩, rfl, rfl, rfl, rfl, ?_⟩, (by intro h; cases h)⟩ | refine .inr ⟨fun _ => ⟨[0], _, _, _, ok34 L _ hL (by omega), ⟨rfl, rfl, trivial⟩, rfl, rfl, rfl, rfl, ?_⟩, (by intro h; cases h)⟩)
      conv => whnf
      have hiy : i < y.length := by omega
      have hfl := hsm.free _ (List.getElem_mem hix)
      have c5 := c5 hiy
      rw [show (((rowsZ y).length : Int) == ((rowsZ x).length : Int)) = true by rw [rowsZ_len, rowsZ_len, c4]; exact beq_self_eq_true _]
      refine ⟨fun _ => ⟨rfl, by omega, by rw [rowsZ_len]; omega⟩, ?_⟩
      rw [Int.toNat_natCast, rowsZ_get y i hiy]
      repeat ((conv => whnf); first | refine Cd.seq ?_ | refine Cd.cut ?_ | refine Cd.reg ?_ | refine Cd.block ?_ | refine Cd.cond ?_ | refine Cd.dreg ?_ | refine Cd.skip ?_ | refine Cd.ret ?_ | refine Cd.exit ?_ | refine Cd.loop ?_ | refine ⟨rfl, ?_⟩ | refine ⟨Nat.le_of_ble_eq_true rfl, ?_⟩ | refine ⟨.inl rfl, ?_⟩ | refine ⟨fun h => Bool.noConfusion h, ?_⟩ | refine ⟨?_, fun h => Bool.noConfusion h⟩ | refine fun (_ : false = false) => ?_ | refine fun (_ : true = true) => ?_ | refine .inr ⟨fun _ => ⟨[0], _, _, _, ok16n L _ _ hL (by omega) (by omega) (by omega), ⟨rfl, rfl, trivial⟩, rfl, rfl, rfl, rfl, ?_⟩, (by intro h; cases h)⟩ | refine .inr ⟨fun _ => ⟨[0], _, _, _, ok34 L _ hL (by omega), ⟨rfl, rfl, trivial⟩, rfl, rfl, rfl, rfl, ?_⟩, (by intro h; cases h)⟩)
      conv => whnf
      refine ⟨fun _ => ⟨rfl, by omega, by rw [rowsZ_len]; omega⟩, ?_⟩
      rw [Int.toNat_natCast, rowsZ_get x i hix]
      repeat ((conv => whnf); first | refine Cd.seq ?_ | refine Cd.cut ?_ | refine Cd.reg ?_ | refine Cd.block ?_ | refine Cd.cond ?_ | refine Cd.dreg ?_ | refine Cd.skip ?_ | refine Cd.ret ?_ | refine Cd.exit ?_ | refine Cd.loop ?_ | refine ⟨rfl, ?_⟩ | refine ⟨Nat.le_of_ble_eq_true rfl, ?_⟩ | refine ⟨.inl rfl, ?_⟩ | refine ⟨fun h => Bool.noConfusion h, ?_⟩ | refine ⟨?_, fun h => Bool.noConfusion h⟩ | refine fun (_ : false = false) => ?_ | refine fun (_ : true = true) => ?_ | refine .inr ⟨fun _ => ⟨[0], _, _, _, ok16n L _ _ hL (by omega) (by omega) (by omega), ⟨rfl, rfl, trivial⟩, rfl, rfl, rfl, rfl, ?_⟩, (by intro h; cases h)⟩ | refine .inr ⟨fun _ => ⟨[0], _, _, _, ok34 L _ hL (by omega), ⟨rfl, rfl, trivial⟩, rfl, rfl, rfl, rfl, ?_⟩, (by intro h; cases h)⟩)
      conv => whnf
      rw [show (((rowsI y[i].free).length : Int) == IntKind.i64.wrap (((rowsI x[i].free).length : Int) - 1)) = true by rw [rowsI_len, rowsI_len, wrapI (by omega) (by omega), c5]; exact beq_self_eq_true _]
      refine ⟨fun _ => ⟨rfl, by omega, by rw [rowsZ_len]; omega⟩, ?_⟩
      rw [Int.toNat_natCast, rowsZ_get x i hix]
      repeat ((conv => whnf); first | refine Cd.seq ?_ | refine Cd.cut ?_ | refine Cd.reg ?_ | refine Cd.block ?_ | refine Cd.cond ?_ | refine Cd.dreg ?_ | refine Cd.skip ?_ | refine Cd.ret ?_ | refine Cd.exit ?_ | refine Cd.loop ?_ | refine ⟨rfl, ?_⟩ | refine ⟨Nat.le_of_ble_eq_true rfl, ?_⟩ | refine ⟨.inl rfl, ?_⟩ | refine ⟨fun h => Bool.noConfusion h, ?_⟩ | refine ⟨?_, fun h => Bool.noConfusion h⟩ | refine fun (_ : false = false) => ?_ | refine fun (_ : true = true) => ?_ | refine .inr ⟨fun _ => ⟨[0], _, _, _, ok16n L _ _ hL (by omega) (by omega) (by omega), ⟨rfl, rfl, trivial⟩, rfl, rfl, rfl, rfl, ?_⟩, (by intro h; cases h)⟩ | refine .inr ⟨fun _ => ⟨[0], _, _, _, ok34 L _ hL (by omega), ⟨rfl, rfl, trivial⟩, rfl, rfl, rfl, rfl, ?_⟩, (by intro h; cases h)⟩)
      conv => whnf
      refine ⟨fun _ => ⟨rfl, by decide, by rw [rowsI_len]; exact Int.ofNat_lt.2 c3⟩, ?_⟩
      rw [show ((0 : Int)).toNat = 0 from rfl, rowsI_get _ 0 c3, getI _ 0 c3, c2]
      repeat ((conv => whnf); first | refine Cd.seq ?_ | refine Cd.cut ?_ | refine Cd.reg ?_ | refine Cd.block ?_ | refine Cd.cond ?_ | refine Cd.dreg ?_ | refine Cd.skip ?_ | refine Cd.ret ?_ | refine Cd.exit ?_ | refine Cd.loop ?_ | refine ⟨rfl, ?_⟩ | refine ⟨Nat.le_of_ble_eq_true rfl, ?_⟩ | refine ⟨.inl rfl, ?_⟩ | refine ⟨fun h => Bool.noConfusion h, ?_⟩ | refine ⟨?_, fun h => Bool.noConfusion h⟩ | refine fun (_ : false = false) => ?_ | refine fun (_ : true = true) => ?_ | refine .inr ⟨fun _ => ⟨[0], _, _, _, ok16n L _ _ hL (by omega) (by omega) (by omega), ⟨rfl, rfl, trivial⟩, rfl, rfl, rfl, rfl, ?_⟩, (by intro h; cases h)⟩ | refine .inr ⟨fun _ => ⟨[0], _, _, _, ok34 L _ hL (by omega), ⟨rfl, rfl, trivial⟩, rfl, rfl, rfl, rfl, ?_⟩, (by intro h; cases h)⟩)
      conv => whnf
      rw [beq_self_eq_true f]
      repeat ((conv => whnf); first | refine Cd.seq ?_ | refine Cd.cut ?_ | refine Cd.reg ?_ | refine Cd.block ?_ | refine Cd.cond ?_ | refine Cd.dreg ?_ | refine Cd.skip ?_ | refine Cd.ret ?_ | refine Cd.exit ?_ | refine Cd.loop ?_ | refine ⟨rfl, ?_⟩ | refine ⟨Nat.le_of_ble_eq_true rfl, ?_⟩ | refine ⟨.inl rfl, ?_⟩ | refine ⟨fun h => Bool.noConfusion h, ?_⟩ | refine .inl ⟨_, fun _ => ⟨purA rfl, (by first | exact ok31)⟩, .inl rfl, ?_⟩ | refine .inr ⟨fun _ => ⟨[0], _, _, _, ok16n L _ _ hL (by omega) (by omega) (by omega), ⟨rfl, rfl, trivial⟩, rfl, rfl, rfl, rfl, ?_⟩, (by intro h; cases h)⟩ | refine .inr ⟨fun _ => ⟨[0], _, _, _, ok34 L _ hL (by omega), ⟨rfl, rfl, trivial⟩, rfl, rfl, rfl, rfl, ?_⟩, (by intro h; cases h)⟩)
      conv => whnf
      refine ⟨[], ?_, rfl, trivial, rfl, ?_⟩
      · exact trivial
      try subst hk
      repeat' (first | exact trivial | rfl | exact .inl rfl | exact .inr rfl | exact id | exact (fun h => Bool.noConfusion h) | refine And.intro ?_ ?_)
  have h1 : i = -1 := by simp at h1; omega
  subst h1
  repeat ((conv => whnf); first | refine Cd.seq ?_ | refine Cd.cut ?_ | refine Cd.reg ?_ | refine Cd.block ?_ | refine Cd.cond ?_ | refine Cd.dreg ?_ | refine Cd.skip ?_ | refine Cd.ret ?_ | refine Cd.exit ?_ | refine Cd.loop ?_ | refine ⟨rfl, ?_⟩ | refine ⟨Nat.le_of_ble_eq_true rfl, ?_⟩ | refine ⟨.inl rfl, ?_⟩ | refine ⟨fun h => Bool.noConfusion h, ?_⟩ | refine .inr ⟨fun _ => ⟨[0], _, _, _, ok16n L _ _ hL (by omega) (by omega) (by omega), ⟨rfl, rfl, trivial⟩, rfl, rfl, rfl, rfl, ?_⟩, (by intro h; cases h)⟩ | refine .inr ⟨fun _ => ⟨[0], _, _, _, ok34 L _ hL (by omega), ⟨rfl, rfl, trivial⟩, rfl, rfl, rfl, rfl, ?_⟩, (by intro h; cases h)⟩)
  conv => whnf
  rw [hF.k3 fun j hj h2 => hi2 j hj (by omega) h2]
  repeat ((conv => whnf); first | refine Cd.seq ?_ | refine Cd.cut ?_ | refine Cd.reg ?_ | refine Cd.block ?_ | refine Cd.cond ?_ | refine Cd.dreg ?_ | refine Cd.skip ?_ | refine Cd.ret ?_ | refine Cd.exit ?_ | refine Cd.loop ?_ | refine ⟨rfl, ?_⟩ | refine ⟨Nat.le_of_ble_eq_true rfl, ?_⟩ | refine ⟨.inl rfl, ?_⟩ | refine ⟨fun h => Bool.noConfusion h, ?_⟩ | refine .inl ⟨_, fun _ => ⟨purA rfl, (by first | exact ok31)⟩, .inl rfl, ?_⟩ | refine .inr ⟨fun _ => ⟨[0], _, _, _, ok16n L _ _ hL (by omega) (by omega) (by omega), ⟨rfl, rfl, trivial⟩, rfl, rfl, rfl, rfl, ?_⟩, (by intro h; cases h)⟩ | refine .inr ⟨fun _ => ⟨[0], _, _, _, ok34 L _ hL (by omega), ⟨rfl, rfl, trivial⟩, rfl, rfl, rfl, rfl, ?_⟩, (by intro h; cases h)⟩)
  conv => whnf
  refine ⟨[], ?_, rfl, trivial, rfl, ?_⟩
  · exact trivial
  try subst hk
  repeat' (first | exact trivial | rfl | exact .inl rfl | exact .inr rfl | exact id | exact (fun h => Bool.noConfusion h) | refine And.intro ?_ ?_)
end Go.Proofs.Ytcifhjkodbaghaa
