/- Readahead: the law ReadaheadPlans, as a contract. -/
import Derived.Test.YteelckbeekgfiaaDoorR7
set_option linter.unusedSimpArgs false
set_option linter.unusedVariables false
namespace Go.Proofs.YteelckbeekgfiaaDoor
open Go Go.Sk Go.RowKit

/- pagecache/pagecachelaw07.ReadaheadPlans -/
def rc3 : RC :=
  (.seq
  (.reg [⟨(some 2), none, (.mv (.c (.bool false)))⟩] [])
  (.seq
  (.reg [⟨(some 21), none, (.mv (.t 0))⟩,
    ⟨(some 22), none, (.build [(.lst 0 true []), (.int .i64 0)] [(0, (1, (.t 21)))])⟩,
    ⟨(some 23), none, (.box (.t 22))⟩,
    ⟨(some 3), none, (.mv (.t 23))⟩] [21, 22, 23])
  (.seq
  (.reg [⟨(some 24), none, (.mv (.t 3))⟩,
    ⟨(some 25), none, (.call 6 [(.t 24)])⟩,
    ⟨(some 4), none, (.mv (.t 25))⟩] [24, 25])
  (.seq
  (.reg [⟨(some 26), none, (.build [(.int .i64 0), (.int .i64 0), (.int .i64 0), (.int .i64 0), (.int .i64 0), (.int .i64 0)] [])⟩,
    ⟨(some 5), none, (.alloc [(.int .i64 0), (.int .i64 0), (.int .i64 0), (.int .i64 0), (.int .i64 0), (.int .i64 0)])⟩,
    ⟨none, none, (.st 6 (.t 5) (.t 26))⟩] [26])
  (.cut
  (.seq
  (.reg [⟨(some 27), none, (.mv (.t 4))⟩,
    ⟨(some 28), none, (.len (.t 27))⟩,
    ⟨(some 29), none, (.bin .gtr (.t 28) (.c (.int .i64 0)))⟩] [27, 28])
  (.cond (.t 29)
   (.reg [⟨(some 30), none, (.mv (.t 4))⟩,
     ⟨(some 31), none, (.mv (.t 3))⟩,
     ⟨(some 32), none, (.mv (.t 4))⟩,
     ⟨(some 33), none, (.len (.t 32))⟩,
     ⟨(some 34), none, (.call 7 [(.t 31), (.t 33)])⟩,
     ⟨(some 35), none, (.iaddr 6 (.t 30) (.t 34))⟩,
     ⟨(some 36), none, (.ld true 6 (.t 35))⟩,
     ⟨none, none, (.st 6 (.t 5) (.t 36))⟩] [30, 31, 32, 33, 34, 35, 36])
   .skip))
  (.cut
  (.seq
  (.reg [⟨(some 37), none, (.mv (.t 3))⟩,
    ⟨(some 38), none, (.call 7 [(.t 37), (.c (.int .i64 3))])⟩,
    ⟨(some 39), none, (.bin .gtr (.t 38) (.c (.int .i64 0)))⟩] [37, 38])
  (.cond (.t 39)
   (.reg [⟨(some 40), none, (.faddr 4 (.t 5))⟩,
     ⟨(some 41), none, (.ld false 1 (.t 40))⟩,
     ⟨(some 42), none, (.bin .add (.t 41) (.c (.int .i64 2)))⟩,
     ⟨(some 43), none, (.faddr 4 (.t 5))⟩,
     ⟨none, none, (.st 1 (.t 43) (.t 42))⟩] [40, 41, 42, 43])
   .skip))
  (.seq
  (.reg [⟨(some 44), none, (.mv (.t 3))⟩,
    ⟨(some 45), none, (.call 7 [(.t 44), (.c (.int .i64 40))])⟩,
    ⟨(some 46), none, (.mv (.t 3))⟩,
    ⟨(some 47), none, (.call 7 [(.t 46), (.c (.int .i64 10))])⟩,
    ⟨(some 48), none, (.mv (.t 3))⟩,
    ⟨(some 49), none, (.call 7 [(.t 48), (.c (.int .i64 10))])⟩,
    ⟨(some 50), none, (.build [(.int .i64 0), (.int .i64 0), (.int .i64 0)] [(0, (1, (.t 45))), (1, (1, (.t 47))), (2, (1, (.t 49)))])⟩,
    ⟨(some 6), none, (.alloc [(.int .i64 0), (.int .i64 0), (.int .i64 0)])⟩,
    ⟨none, none, (.st 3 (.t 6) (.t 50))⟩] [44, 45, 46, 47, 48, 49, 50])
  (.cut
  (.seq
  (.reg [⟨(some 51), none, (.mv (.t 3))⟩,
    ⟨(some 52), none, (.call 7 [(.t 51), (.c (.int .i64 3))])⟩,
    ⟨(some 53), none, (.bin .eql (.t 52) (.c (.int .i64 0)))⟩] [51, 52])
  (.cond (.t 53)
   (.reg [⟨(some 54), none, (.build [(.int .i64 0), (.int .i64 0), (.int .i64 0)] [])⟩,
     ⟨none, none, (.st 3 (.t 6) (.t 54))⟩] [54])
   .skip))
  (.cut
  (.seq
  (.reg [⟨(some 55), none, (.mv (.t 3))⟩,
    ⟨(some 56), none, (.call 7 [(.t 55), (.c (.int .i64 9))])⟩,
    ⟨(some 57), none, (.bin .eql (.t 56) (.c (.int .i64 0)))⟩] [55, 56])
  (.cond (.t 57)
   (.reg [⟨(some 58), none, (.mv (.t 3))⟩,
     ⟨(some 59), none, (.call 8 [(.t 58)])⟩,
     ⟨(some 60), none, (.faddr 0 (.t 6))⟩,
     ⟨none, none, (.st 1 (.t 60) (.t 59))⟩] [58, 59, 60])
   .skip))
  (.seq
  (.dreg 14336 14480 [⟨(some 61), none, (.faddr 1 (.t 5))⟩,
    ⟨(some 62), none, (.ld false 1 (.t 61))⟩,
    ⟨(some 63), none, (.faddr 2 (.t 5))⟩,
    ⟨(some 64), none, (.ld false 1 (.t 63))⟩,
    ⟨(some 65), none, (.mv (.t 3))⟩,
    ⟨(some 66), none, (.call 7 [(.t 65), (.c (.int .i64 45))])⟩,
    ⟨(some 7), none, (.mv (.t 62))⟩,
    ⟨(some 8), none, (.mv (.t 64))⟩,
    ⟨(some 9), none, (.mv (.t 66))⟩] [61, 62, 63, 64, 65, 66] [[], [0], [], [2], [], [4], [5, 4, 1, 0], [3, 2, 6, 0, 1, 4, 5], [7, 5, 4, 1, 0, 6, 2, 3]] [14336, 14352, 14368, 14384, 14400, 14416, 14432, 14448, 14464])
  (.cut
  (.seq
  (.reg [⟨(some 67), none, (.mv (.t 3))⟩,
    ⟨(some 68), none, (.call 7 [(.t 67), (.c (.int .i64 4))])⟩,
    ⟨(some 69), none, (.bin .eql (.t 68) (.c (.int .i64 0)))⟩] [67, 68])
  (.cond (.t 69)
   (.reg [⟨(some 70), none, (.mv (.t 3))⟩,
     ⟨(some 71), none, (.call 7 [(.t 70), (.c (.int .i64 40))])⟩,
     ⟨(some 72), none, (.mv (.t 3))⟩,
     ⟨(some 73), none, (.call 7 [(.t 72), (.c (.int .i64 44))])⟩,
     ⟨(some 7), none, (.mv (.t 71))⟩,
     ⟨(some 8), none, (.mv (.t 73))⟩] [70, 71, 72, 73])
   .skip))
  (.cut
  (.seq
  (.reg [⟨(some 74), none, (.mv (.t 3))⟩,
    ⟨(some 75), none, (.call 7 [(.t 74), (.c (.int .i64 9))])⟩,
    ⟨(some 76), none, (.bin .eql (.t 75) (.c (.int .i64 0)))⟩] [74, 75])
  (.cond (.t 76)
   (.reg [⟨(some 77), none, (.mv (.t 3))⟩,
     ⟨(some 78), none, (.call 8 [(.t 77)])⟩,
     ⟨(some 9), none, (.mv (.t 78))⟩] [77, 78])
   .skip))
  (.seq
  (.reg [⟨(some 79), none, (.mv (.t 3))⟩,
    ⟨(some 80), none, (.call 8 [(.t 79)])⟩,
    ⟨(some 10), none, (.mv (.t 80))⟩] [79, 80])
  (.seq
  (.reg [⟨(some 82), none, (.ld true 3 (.t 6))⟩,
    ⟨(some 83), none, (.ld true 6 (.t 5))⟩,
    ⟨(some 84), none, (.mv (.t 7))⟩,
    ⟨(some 85), none, (.mv (.t 8))⟩,
    ⟨(some 86), none, (.mv (.t 9))⟩,
    ⟨(some 87), none, (.call 9 [(.t 82), (.t 83), (.t 84), (.t 85), (.t 86)])⟩,
    ⟨(some 81), none, (.mv (.t 87))⟩,
    ⟨(some 88), none, (.extr 0 (.t 81))⟩,
    ⟨(some 89), none, (.extr 1 (.t 81))⟩,
    ⟨(some 90), none, (.extr 2 (.t 81))⟩,
    ⟨(some 11), none, (.alloc [(.int .i64 0), (.int .i64 0), (.int .i64 0)])⟩,
    ⟨none, none, (.st 3 (.t 11) (.t 88))⟩,
    ⟨(some 12), none, (.mv (.t 89))⟩,
    ⟨(some 13), none, (.mv (.t 90))⟩] [82, 83, 84, 85, 86, 87, 81, 88, 89, 90])
  (.seq
  (.reg [⟨(some 92), none, (.ld true 3 (.t 6))⟩,
    ⟨(some 93), none, (.ld true 6 (.t 5))⟩,
    ⟨(some 94), none, (.mv (.t 7))⟩,
    ⟨(some 95), none, (.mv (.t 8))⟩,
    ⟨(some 96), none, (.mv (.t 9))⟩,
    ⟨(some 97), none, (.call 10 [(.t 92), (.t 93), (.t 94), (.t 95), (.t 96)])⟩,
    ⟨(some 91), none, (.mv (.t 97))⟩,
    ⟨(some 98), none, (.extr 0 (.t 91))⟩,
    ⟨(some 99), none, (.extr 1 (.t 91))⟩,
    ⟨(some 100), none, (.extr 2 (.t 91))⟩,
    ⟨(some 14), none, (.alloc [(.int .i64 0), (.int .i64 0), (.int .i64 0)])⟩,
    ⟨none, none, (.st 3 (.t 14) (.t 98))⟩,
    ⟨(some 15), none, (.mv (.t 99))⟩,
    ⟨(some 16), none, (.mv (.t 100))⟩] [92, 93, 94, 95, 96, 97, 91, 98, 99, 100])
  (.seq
  (.reg [⟨(some 102), none, (.ld true 3 (.t 6))⟩,
    ⟨(some 103), none, (.call 11 [(.t 102)])⟩,
    ⟨(some 101), none, (.mv (.t 103))⟩,
    ⟨(some 104), none, (.extr 0 (.t 101))⟩,
    ⟨(some 105), none, (.extr 1 (.t 101))⟩,
    ⟨(some 17), none, (.mv (.t 104))⟩,
    ⟨(some 18), none, (.mv (.t 105))⟩] [102, 103, 101, 104, 105])
  (.seq
  (.reg [⟨(some 107), none, (.ld true 3 (.t 6))⟩,
    ⟨(some 108), none, (.call 12 [(.t 107)])⟩,
    ⟨(some 106), none, (.mv (.t 108))⟩,
    ⟨(some 109), none, (.extr 0 (.t 106))⟩,
    ⟨(some 110), none, (.extr 1 (.t 106))⟩,
    ⟨(some 19), none, (.mv (.t 109))⟩,
    ⟨(some 20), none, (.mv (.t 110))⟩] [107, 108, 106, 109, 110])
  (.seq
  (.dreg 24576 25344 [⟨(some 111), none, (.ld true 3 (.t 11))⟩,
    ⟨(some 112), none, (.ld true 3 (.t 14))⟩,
    ⟨(some 113), none, (.eqs false [(0, false), (1, false), (2, false)] (.t 111) (.t 112))⟩,
    ⟨(some 114), none, (.mv (.t 113))⟩,
    ⟨(some 115), (some (114, true)), (.mv (.t 12))⟩,
    ⟨(some 116), (some (114, true)), (.mv (.t 15))⟩,
    ⟨(some 117), (some (114, true)), (.call 13 [(.t 115), (.t 116)])⟩,
    ⟨(some 118), none, (.pick (.t 114) (.t 117) (.c (.bool false)))⟩,
    ⟨(some 119), none, (.mv (.t 118))⟩,
    ⟨(some 120), (some (119, true)), (.mv (.t 13))⟩,
    ⟨(some 121), (some (119, true)), (.mv (.t 16))⟩,
    ⟨(some 122), (some (119, true)), (.bin .eql (.t 120) (.t 121))⟩,
    ⟨(some 123), none, (.pick (.t 119) (.t 122) (.c (.bool false)))⟩,
    ⟨(some 124), none, (.mv (.t 123))⟩,
    ⟨(some 125), (some (124, true)), (.mv (.t 17))⟩,
    ⟨(some 126), (some (124, true)), (.mv (.t 19))⟩,
    ⟨(some 127), (some (124, true)), (.bin .eql (.t 125) (.t 126))⟩,
    ⟨(some 128), none, (.pick (.t 124) (.t 127) (.c (.bool false)))⟩,
    ⟨(some 129), none, (.mv (.t 128))⟩,
    ⟨(some 130), (some (129, true)), (.mv (.t 18))⟩,
    ⟨(some 131), (some (129, true)), (.mv (.t 20))⟩,
    ⟨(some 132), (some (129, true)), (.eqb false (.t 130) (.t 131))⟩,
    ⟨(some 133), none, (.pick (.t 129) (.t 132) (.c (.bool false)))⟩,
    ⟨(some 134), none, (.mv (.t 133))⟩,
    ⟨(some 135), (some (134, true)), (.ld true 3 (.t 6))⟩,
    ⟨(some 136), (some (134, true)), (.call 14 [(.t 135)])⟩,
    ⟨(some 137), (some (134, true)), (.ld true 3 (.t 6))⟩,
    ⟨(some 138), (some (134, true)), (.call 15 [(.t 137)])⟩,
    ⟨(some 139), (some (134, true)), (.eqb false (.t 136) (.t 138))⟩,
    ⟨(some 140), none, (.pick (.t 134) (.t 139) (.c (.bool false)))⟩,
    ⟨(some 141), none, (.mv (.t 140))⟩,
    ⟨(some 142), (some (141, true)), (.mv (.t 10))⟩,
    ⟨(some 143), (some (141, true)), (.call 16 [(.t 142)])⟩,
    ⟨(some 144), (some (141, true)), (.mv (.t 10))⟩,
    ⟨(some 145), (some (141, true)), (.call 17 [(.t 144)])⟩,
    ⟨(some 146), (some (141, true)), (.bin .eql (.t 143) (.t 145))⟩,
    ⟨(some 147), none, (.pick (.t 141) (.t 146) (.c (.bool false)))⟩,
    ⟨(some 148), none, (.mv (.t 147))⟩,
    ⟨(some 149), (some (148, true)), (.mv (.t 10))⟩,
    ⟨(some 150), (some (148, true)), (.call 18 [(.t 149)])⟩,
    ⟨(some 151), (some (148, true)), (.mv (.t 10))⟩,
    ⟨(some 152), (some (148, true)), (.call 19 [(.t 151)])⟩,
    ⟨(some 153), (some (148, true)), (.bin .eql (.t 150) (.t 152))⟩,
    ⟨(some 154), none, (.pick (.t 148) (.t 153) (.c (.bool false)))⟩,
    ⟨(some 155), none, (.mv (.t 154))⟩,
    ⟨(some 156), (some (155, true)), (.call 20 [])⟩,
    ⟨(some 157), none, (.pick (.t 155) (.t 156) (.c (.bool false)))⟩,
    ⟨(some 2), none, (.mv (.t 157))⟩] [111, 112, 113, 114, 115, 116, 117, 118, 119, 120, 121, 122, 123, 124, 125, 126, 127, 128, 129, 130, 131, 132, 133, 134, 135, 136, 137, 138, 139, 140, 141, 142, 143, 144, 145, 146, 147, 148, 149, 150, 151, 152, 153, 154, 155, 156, 157] [[], [], [0, 1], [2, 1, 0], [3, 0, 1, 2], [3, 0, 1, 2], [4, 5, 3, 0, 1, 2], [6, 2, 1, 0, 3, 5, 4], [7, 6, 2, 1, 0, 3, 5, 4], [8, 4, 5, 3, 0, 1, 2, 6, 7], [8, 4, 5, 3, 0, 1, 2, 6, 7], [9, 10, 8, 4, 5, 3, 0, 1, 2, 6, 7], [11, 7, 6, 2, 1, 0, 3, 5, 4, 8, 10, 9], [12, 9, 10, 11, 8, 4, 5, 3, 0, 1, 2, 6, 7], [13, 7, 6, 2, 1, 0, 3, 5, 4, 8, 11, 10, 9, 12], [13, 7, 6, 2, 1, 0, 3, 5, 4, 8, 11, 10, 9, 12], [14, 15, 13, 7, 6, 2, 1, 0, 3, 5, 4, 8, 11, 10, 9, 12], [16, 12, 9, 10, 11, 8, 4, 5, 3, 0, 1, 2, 6, 7, 13, 15, 14], [17, 14, 15, 16, 13, 7, 6, 2, 1, 0, 3, 5, 4, 8, 11, 10, 9, 12], [18, 12, 9, 10, 11, 8, 4, 5, 3, 0, 1, 2, 6, 7, 13, 16, 15, 14, 17], [18, 12, 9, 10, 11, 8, 4, 5, 3, 0, 1, 2, 6, 7, 13, 16, 15, 14, 17], [19, 20, 18, 12, 9, 10, 11, 8, 4, 5, 3, 0, 1, 2, 6, 7, 13, 16, 15, 14, 17], [21, 17, 14, 15, 16, 13, 7, 6, 2, 1, 0, 3, 5, 4, 8, 11, 10, 9, 12, 18, 20, 19], [22, 19, 20, 21, 18, 12, 9, 10, 11, 8, 4, 5, 3, 0, 1, 2, 6, 7, 13, 16, 15, 14, 17], [23, 17, 14, 15, 16, 13, 7, 6, 2, 1, 0, 3, 5, 4, 8, 11, 10, 9, 12, 18, 21, 20, 19, 22], [24, 23, 17, 14, 15, 16, 13, 7, 6, 2, 1, 0, 3, 5, 4, 8, 11, 10, 9, 12, 18, 21, 20, 19, 22], [23, 17, 14, 15, 16, 13, 7, 6, 2, 1, 0, 3, 5, 4, 8, 11, 10, 9, 12, 18, 21, 20, 19, 22], [26, 25, 24, 23, 17, 14, 15, 16, 13, 7, 6, 2, 1, 0, 3, 5, 4, 8, 11, 10, 9, 12, 18, 21, 20, 19, 22], [27, 24, 25, 26, 23, 17, 14, 15, 16, 13, 7, 6, 2, 1, 0, 3, 5, 4, 8, 11, 10, 9, 12, 18, 21, 20, 19, 22], [28, 22, 19, 20, 21, 18, 12, 9, 10, 11, 8, 4, 5, 3, 0, 1, 2, 6, 7, 13, 16, 15, 14, 17, 23, 26, 25, 24, 27], [29, 28, 27, 22, 19, 20, 21, 18, 12, 9, 10, 11, 8, 4, 5, 3, 0, 1, 2, 6, 7, 13, 16, 15, 14, 17, 23, 24, 25, 26], [30, 26, 25, 24, 23, 17, 14, 15, 16, 13, 7, 6, 2, 1, 0, 3, 5, 4, 8, 11, 10, 9, 12, 18, 21, 20, 19, 22, 27, 28, 29], [31, 30, 26, 25, 24, 23, 17, 14, 15, 16, 13, 7, 6, 2, 1, 0, 3, 5, 4, 8, 11, 10, 9, 12, 18, 21, 20, 19, 22, 27, 28, 29], [30, 26, 25, 24, 23, 17, 14, 15, 16, 13, 7, 6, 2, 1, 0, 3, 5, 4, 8, 11, 10, 9, 12, 18, 21, 20, 19, 22, 27, 28, 29], [33, 32, 31, 30, 26, 25, 24, 23, 17, 14, 15, 16, 13, 7, 6, 2, 1, 0, 3, 5, 4, 8, 11, 10, 9, 12, 18, 21, 20, 19, 22, 27, 28, 29], [34, 31, 32, 33, 30, 26, 25, 24, 23, 17, 14, 15, 16, 13, 7, 6, 2, 1, 0, 3, 5, 4, 8, 11, 10, 9, 12, 18, 21, 20, 19, 22, 27, 28, 29], [35, 29, 28, 27, 22, 19, 20, 21, 18, 12, 9, 10, 11, 8, 4, 5, 3, 0, 1, 2, 6, 7, 13, 16, 15, 14, 17, 23, 24, 25, 26, 30, 33, 32, 31, 34], [36, 35, 34, 29, 28, 27, 22, 19, 20, 21, 18, 12, 9, 10, 11, 8, 4, 5, 3, 0, 1, 2, 6, 7, 13, 16, 15, 14, 17, 23, 24, 25, 26, 30, 31, 32, 33], [37, 33, 32, 31, 30, 26, 25, 24, 23, 17, 14, 15, 16, 13, 7, 6, 2, 1, 0, 3, 5, 4, 8, 11, 10, 9, 12, 18, 21, 20, 19, 22, 27, 28, 29, 34, 35, 36], [38, 37, 33, 32, 31, 30, 26, 25, 24, 23, 17, 14, 15, 16, 13, 7, 6, 2, 1, 0, 3, 5, 4, 8, 11, 10, 9, 12, 18, 21, 20, 19, 22, 27, 28, 29, 34, 35, 36], [37, 33, 32, 31, 30, 26, 25, 24, 23, 17, 14, 15, 16, 13, 7, 6, 2, 1, 0, 3, 5, 4, 8, 11, 10, 9, 12, 18, 21, 20, 19, 22, 27, 28, 29, 34, 35, 36], [40, 39, 38, 37, 33, 32, 31, 30, 26, 25, 24, 23, 17, 14, 15, 16, 13, 7, 6, 2, 1, 0, 3, 5, 4, 8, 11, 10, 9, 12, 18, 21, 20, 19, 22, 27, 28, 29, 34, 35, 36], [41, 38, 39, 40, 37, 33, 32, 31, 30, 26, 25, 24, 23, 17, 14, 15, 16, 13, 7, 6, 2, 1, 0, 3, 5, 4, 8, 11, 10, 9, 12, 18, 21, 20, 19, 22, 27, 28, 29, 34, 35, 36], [42, 36, 35, 34, 29, 28, 27, 22, 19, 20, 21, 18, 12, 9, 10, 11, 8, 4, 5, 3, 0, 1, 2, 6, 7, 13, 16, 15, 14, 17, 23, 24, 25, 26, 30, 31, 32, 33, 37, 40, 39, 38, 41], [43, 42, 41, 36, 35, 34, 29, 28, 27, 22, 19, 20, 21, 18, 12, 9, 10, 11, 8, 4, 5, 3, 0, 1, 2, 6, 7, 13, 16, 15, 14, 17, 23, 24, 25, 26, 30, 31, 32, 33, 37, 38, 39, 40], [44, 40, 39, 38, 37, 33, 32, 31, 30, 26, 25, 24, 23, 17, 14, 15, 16, 13, 7, 6, 2, 1, 0, 3, 5, 4, 8, 11, 10, 9, 12, 18, 21, 20, 19, 22, 27, 28, 29, 34, 35, 36, 41, 42, 43], [45, 43, 42, 41, 36, 35, 34, 29, 28, 27, 22, 19, 20, 21, 18, 12, 9, 10, 11, 8, 4, 5, 3, 0, 1, 2, 6, 7, 13, 16, 15, 14, 17, 23, 24, 25, 26, 30, 31, 32, 33, 37, 38, 39, 40, 44], [46, 44, 40, 39, 38, 37, 33, 32, 31, 30, 26, 25, 24, 23, 17, 14, 15, 16, 13, 7, 6, 2, 1, 0, 3, 5, 4, 8, 11, 10, 9, 12, 18, 21, 20, 19, 22, 27, 28, 29, 34, 35, 36, 41, 42, 43, 45]] [24576, 24592, 24608, 24624, 24640, 24656, 24672, 24688, 24704, 24720, 24736, 24752, 24768, 24784, 24800, 24816, 24832, 24848, 24864, 24880, 24896, 24912, 24928, 24944, 24960, 24976, 24992, 25008, 25024, 25040, 25056, 25072, 25088, 25104, 25120, 25136, 25152, 25168, 25184, 25200, 25216, 25232, 25248, 25264, 25280, 25296, 25312, 25328])
  .ret))))))))))))))))))
theorem rcq3 : resC Go.Proofs.Tryd.prog Go.Proofs.Tryd.f3.ntmps ((Go.Proofs.Tryd.f3.body).getD .skip) = some (strip rc3) := by kernel_rfl
def rv3 : List RV := [(.tmp 2)]
theorem rvq3 : Go.Proofs.Tryd.f3.results.toList.mapM (resRV Go.Proofs.Tryd.prog) = some rv3 := by kernel_rfl

theorem streamsF_in (L : List Int) (I : Nat) (hI : I ≤ L.length) : (streamsF L I).1.length ≤ 4 ∧ (streamsF L I).2 ≤ L.length := by
  have key : ∀ (n : Nat) (l : List Stm) (J : Nat), l.length ≤ 4 → J ≤ L.length → (streamsLoop L n l J).1.length ≤ 4 ∧ (streamsLoop L n l J).2 ≤ L.length := by
    intro n
    induction n with
    | zero => intro l J h1 h2; exact ⟨h1, h2⟩
    | succ n ih =>
      intro l J h1 h2
      refine ih _ _ (feedR_len4 _ _ _ h1) (nxI_in L _ ?_)
      unfold fromG
      cases decide (0 < (l.length : Int)) <;> cases decide (0 < nxV L (nxI L J) 3) <;> simp only [cond_true, cond_false]
      · exact nxI_in L _ h2
      · exact nxI_in L _ h2
      · exact nxI_in L _ (nxI_in L _ h2)
      · exact nxI_in L _ (nxI_in L _ (nxI_in L _ (nxI_in L _ h2)))
  exact key _ _ _ (by simp) (nxI_in L I hI)
theorem oddF_in (L : List Int) (I : Nat) : -4611686018427387904 ≤ oddF L I ∨ oddF L I = -9223372036854775808 := by
  unfold oddF
  by_cases h : (nxV L I 19).toNat < oddL.length
  · rw [List.getD_eq_getElem?_getD, List.getElem?_eq_getElem h, Option.getD_some]
    have : ∀ x ∈ oddL, -4611686018427387904 ≤ x ∨ x = -9223372036854775808 := by decide
    exact this _ (List.getElem_mem h)
  · rw [List.getD_eq_getElem?_getD, List.getElem?_eq_none (by omega)]; left; decide
theorem beginF_len (e : Int) (old : Win) (z n : Int) (hn : n ≤ 8) : (beginF e old z n).2.length ≤ 8 := by
  unfold beginF
  split
  · simp
  · rw [seqI_len]; omega
theorem planF_len (w : Win) (s : Stm) (a b e : Int) : (planF w s a b e).2.1.length ≤ 8 := by
  unfold planF
  cases !checkW w || !rightF s <;> simp only [cond_true, cond_false]
  · cases rangeBad a b e <;> simp only [cond_true, cond_false]
    · cases !sureF s <;> simp only [cond_true, cond_false]
      · cases s.kind == 2 <;> simp only [cond_true, cond_false]
        · have := predictF_le s (firstF (b - a)) (by have := firstF_in (b - a); omega)
          have := firstF_in (b - a)
          have := keptF_le (predictF s (firstF (b - a))) e
          omega
        · unfold forwardF
          cases onP w a b <;> simp only [cond_true, cond_false]
          · cases offP w a b <;> simp only [cond_true, cond_false]
            · simp
            · exact beginF_len _ _ _ _ (firstF_in _).2
          · exact beginF_len _ _ _ _ (grownF_in _).2
      · simp
    · simp
  · simp
def s3a (L : List Int) (x : Stm) (J : Nat) : St := ⟨[(2, ⟨[], true, .bool false⟩), (3, ⟨[], true, .ptr 0 0 0⟩), (5, ⟨[], true, .ptr 1 0 0⟩)], [(0, tpO L J), (1, .box x.c)], 2⟩
def s3b (L : List Int) (x : Stm) (w : Win) (J : Nat) : St := ⟨[(2, ⟨[], true, .bool false⟩), (3, ⟨[], true, .ptr 0 0 0⟩), (5, ⟨[], true, .ptr 1 0 0⟩), (6, ⟨[], true, .ptr 2 0 0⟩)], [(0, tpO L J), (1, .box x.c), (2, .box w.c)], 3⟩
def s3c (L : List Int) (x : Stm) (w : Win) (a b e : Int) (J : Nat) : St := ⟨[(2, ⟨[], true, .bool false⟩), (3, ⟨[], true, .ptr 0 0 0⟩), (5, ⟨[], true, .ptr 1 0 0⟩), (6, ⟨[], true, .ptr 2 0 0⟩), (7, ⟨[], true, .int .i64 a⟩), (8, ⟨[], true, .int .i64 b⟩), (9, ⟨[], true, .int .i64 e⟩)],
  [(0, tpO L J), (1, .box x.c), (2, .box w.c)], 3⟩
set_option maxRecDepth 20000 in
set_option maxHeartbeats 1000000 in
theorem okD3 (L : List Int) (hL : (L.length : Int) < 2 ^ 62) : FnC Tryd.prog 3 [] [.lst 1 false (rowsI L)] (.bool true) [] := by
  refine fn_okC (ob0 := []) (rc := rc3) (rvs := rv3) Tryd.func3 rfl rcq3 rvq3 (show 1 ≤ _ by decide) ?_
  obtain ⟨b1, b2⟩ := streamsF_in L 0 (by omega)
  repeat ((conv => whnf); first | refine Cd.seq ?_ | refine Cd.cut ?_ | refine Cd.reg ?_ | refine Cd.block ?_ | refine Cd.cond ?_ | refine Cd.dreg ?_ | refine Cd.skip ?_ | refine Cd.ret ?_ | refine Cd.exit ?_ | refine Cd.loop ?_ | refine ⟨rfl, ?_⟩ | refine ⟨Nat.le_of_ble_eq_true rfl, ?_⟩ | refine ⟨.inl rfl, ?_⟩ | refine ⟨fun h => Bool.noConfusion h, ?_⟩ | refine .inr ⟨fun _ => ⟨[0], _, _, _, ok7n L _ _ hL (by omega) (by omega) (by omega), ⟨rfl, rfl, trivial⟩, rfl, rfl, rfl, rfl, ?_⟩, (by intro h; cases h)⟩ | refine .inr ⟨fun _ => ⟨[0], _, _, _, ok8 L _ hL (by omega), ⟨rfl, rfl, trivial⟩, rfl, rfl, rfl, rfl, ?_⟩, (by intro h; cases h)⟩)
  conv => whnf
  refine .inr ⟨fun _ => ⟨[0], _, _, _, ok6 L 0 hL (by omega), ⟨rfl, rfl, trivial⟩, rfl, rfl, rfl, rfl, ?_⟩, (by intro h; cases h)⟩
  revert b1 b2
  generalize (streamsF L 0).1 = l
  generalize (streamsF L 0).2 = J
  intro b1 b2
  repeat ((conv => whnf); first | refine Cd.seq ?_ | refine Cd.cut ?_ | refine Cd.reg ?_ | refine Cd.block ?_ | refine Cd.cond ?_ | refine Cd.dreg ?_ | refine Cd.skip ?_ | refine Cd.ret ?_ | refine Cd.exit ?_ | refine Cd.loop ?_ | refine ⟨rfl, ?_⟩ | refine ⟨Nat.le_of_ble_eq_true rfl, ?_⟩ | refine ⟨.inl rfl, ?_⟩ | refine ⟨fun h => Bool.noConfusion h, ?_⟩ | refine .inr ⟨fun _ => ⟨[0], _, _, _, ok7n L _ _ hL (by omega) (by omega) (by omega), ⟨rfl, rfl, trivial⟩, rfl, rfl, rfl, rfl, ?_⟩, (by intro h; cases h)⟩ | refine .inr ⟨fun _ => ⟨[0], _, _, _, ok8 L _ hL (by omega), ⟨rfl, rfl, trivial⟩, rfl, rfl, rfl, rfl, ?_⟩, (by intro h; cases h)⟩)
  conv => whnf
  refine ⟨Stm × Nat, fun p => p.2 ≤ L.length, fun p => s3a L p.1 p.2, ?_, fun p hp => ?_⟩
  · repeat ((conv => whnf); first | refine Cd.seq ?_ | refine Cd.cut ?_ | refine Cd.reg ?_ | refine Cd.block ?_ | refine Cd.cond ?_ | refine Cd.dreg ?_ | refine Cd.skip ?_ | refine Cd.ret ?_ | refine Cd.exit ?_ | refine Cd.loop ?_ | refine ⟨rfl, ?_⟩ | refine ⟨Nat.le_of_ble_eq_true rfl, ?_⟩ | refine ⟨.inl rfl, ?_⟩ | refine ⟨fun h => Bool.noConfusion h, ?_⟩ | refine .inr ⟨fun _ => ⟨[0], _, _, _, ok7n L _ _ hL (by omega) (by omega) (by omega), ⟨rfl, rfl, trivial⟩, rfl, rfl, rfl, rfl, ?_⟩, (by intro h; cases h)⟩ | refine .inr ⟨fun _ => ⟨[0], _, _, _, ok8 L _ hL (by omega), ⟨rfl, rfl, trivial⟩, rfl, rfl, rfl, rfl, ?_⟩, (by intro h; cases h)⟩)
    conv => whnf
    rw [rowsS_len]
    refine ⟨fun c1 => ?_, fun c1 => ?_⟩ <;> try simp only [Bool.cond_true_left, Bool.cond_false_right, Bool.not_eq_true', Bool.not_eq_false', Bool.not_not] at c1
    · have c1 : 0 < l.length := by simp at c1; omega
      have hw := nxV_in L J l.length (by omega) (by omega)
      have a1 := nxI_in L J b2
      repeat ((conv => whnf); first | refine Cd.seq ?_ | refine Cd.cut ?_ | refine Cd.reg ?_ | refine Cd.block ?_ | refine Cd.cond ?_ | refine Cd.dreg ?_ | refine Cd.skip ?_ | refine Cd.ret ?_ | refine Cd.exit ?_ | refine Cd.loop ?_ | refine ⟨rfl, ?_⟩ | refine ⟨Nat.le_of_ble_eq_true rfl, ?_⟩ | refine ⟨.inl rfl, ?_⟩ | refine ⟨fun h => Bool.noConfusion h, ?_⟩ | refine .inr ⟨fun _ => ⟨[0], _, _, _, ok7n L _ _ hL (by omega) (by omega) (by omega), ⟨rfl, rfl, trivial⟩, rfl, rfl, rfl, rfl, ?_⟩, (by intro h; cases h)⟩ | refine .inr ⟨fun _ => ⟨[0], _, _, _, ok8 L _ hL (by omega), ⟨rfl, rfl, trivial⟩, rfl, rfl, rfl, rfl, ?_⟩, (by intro h; cases h)⟩)
      conv => whnf
      rw [rowsS_len]
      repeat ((conv => whnf); first | refine Cd.seq ?_ | refine Cd.cut ?_ | refine Cd.reg ?_ | refine Cd.block ?_ | refine Cd.cond ?_ | refine Cd.dreg ?_ | refine Cd.skip ?_ | refine Cd.ret ?_ | refine Cd.exit ?_ | refine Cd.loop ?_ | refine ⟨rfl, ?_⟩ | refine ⟨Nat.le_of_ble_eq_true rfl, ?_⟩ | refine ⟨.inl rfl, ?_⟩ | refine ⟨fun h => Bool.noConfusion h, ?_⟩ | refine .inr ⟨fun _ => ⟨[0], _, _, _, ok7n L _ _ hL (by omega) (by omega) (by omega), ⟨rfl, rfl, trivial⟩, rfl, rfl, rfl, rfl, ?_⟩, (by intro h; cases h)⟩ | refine .inr ⟨fun _ => ⟨[0], _, _, _, ok8 L _ hL (by omega), ⟨rfl, rfl, trivial⟩, rfl, rfl, rfl, rfl, ?_⟩, (by intro h; cases h)⟩)
      conv => whnf
      refine ⟨fun _ => ⟨rfl, hw.1, by rw [rowsS_len]; exact hw.2⟩, ?_⟩
      rw [rowsS_getI l _ hw.1 hw.2]
      repeat ((conv => whnf); first | refine Cd.seq ?_ | refine Cd.cut ?_ | refine Cd.reg ?_ | refine Cd.block ?_ | refine Cd.cond ?_ | refine Cd.dreg ?_ | refine Cd.skip ?_ | refine Cd.ret ?_ | refine Cd.exit ?_ | refine Cd.loop ?_ | refine ⟨rfl, ?_⟩ | refine ⟨Nat.le_of_ble_eq_true rfl, ?_⟩ | refine ⟨.inl rfl, ?_⟩ | refine ⟨fun h => Bool.noConfusion h, ?_⟩ | refine .inr ⟨fun _ => ⟨[0], _, _, _, ok7n L _ _ hL (by omega) (by omega) (by omega), ⟨rfl, rfl, trivial⟩, rfl, rfl, rfl, rfl, ?_⟩, (by intro h; cases h)⟩ | refine .inr ⟨fun _ => ⟨[0], _, _, _, ok8 L _ hL (by omega), ⟨rfl, rfl, trivial⟩, rfl, rfl, rfl, rfl, ?_⟩, (by intro h; cases h)⟩)
      conv => whnf
      refine ⟨(l.getD (nxV L J l.length).toNat zeroS, nxI L J), a1, ?_⟩
      refine viewI [some ?k88_0, some ?k88_1] rfl rfl ?h3_88 ?h4_88 ?h5_88 ?h6_88 ?h7_88
      case' h7_88 => repeat' (first | exact trivial | rfl | exact .inl rfl | exact .inr rfl | exact id | exact (fun h => Bool.noConfusion h) | refine And.intro ?_ ?_)
      case' h4_88 => rfl
      case' h6_88 => rfl
      case' h3_88 => repeat' (first | exact trivial | rfl | exact .inl rfl | exact .inr rfl | exact id | exact (fun h => Bool.noConfusion h) | refine And.intro ?_ ?_)
      case' h5_88 => repeat' (first | exact trivial | rfl | exact .inl rfl | exact .inr rfl | exact id | exact (fun h => Bool.noConfusion h) | refine And.intro ?_ ?_)
    repeat ((conv => whnf); first | refine Cd.seq ?_ | refine Cd.cut ?_ | refine Cd.reg ?_ | refine Cd.block ?_ | refine Cd.cond ?_ | refine Cd.dreg ?_ | refine Cd.skip ?_ | refine Cd.ret ?_ | refine Cd.exit ?_ | refine Cd.loop ?_ | refine ⟨rfl, ?_⟩ | refine ⟨Nat.le_of_ble_eq_true rfl, ?_⟩ | refine ⟨.inl rfl, ?_⟩ | refine ⟨fun h => Bool.noConfusion h, ?_⟩ | refine .inr ⟨fun _ => ⟨[0], _, _, _, ok7n L _ _ hL (by omega) (by omega) (by omega), ⟨rfl, rfl, trivial⟩, rfl, rfl, rfl, rfl, ?_⟩, (by intro h; cases h)⟩ | refine .inr ⟨fun _ => ⟨[0], _, _, _, ok8 L _ hL (by omega), ⟨rfl, rfl, trivial⟩, rfl, rfl, rfl, rfl, ?_⟩, (by intro h; cases h)⟩)
    conv => whnf
    refine ⟨(zeroS, J), b2, ?_⟩
    refine viewI [some ?k97_0, some ?k97_1] rfl rfl ?h3_97 ?h4_97 ?h5_97 ?h6_97 ?h7_97
    case' h7_97 => repeat' (first | exact trivial | rfl | exact .inl rfl | exact .inr rfl | exact id | exact (fun h => Bool.noConfusion h) | refine And.intro ?_ ?_)
    case' h4_97 => rfl
    case' h6_97 => rfl
    case' h3_97 => repeat' (first | exact trivial | rfl | exact .inl rfl | exact .inr rfl | exact id | exact (fun h => Bool.noConfusion h) | refine And.intro ?_ ?_)
    case' h5_97 => repeat' (first | exact trivial | rfl | exact .inl rfl | exact .inr rfl | exact id | exact (fun h => Bool.noConfusion h) | refine And.intro ?_ ?_)
  obtain ⟨x, J⟩ := p
  clear b1 b2 l
  have hp : J ≤ L.length := hp
  have a1 := nxI_in L J hp
  have a2 := nxI_in L _ a1
  have a3 := nxI_in L _ a2
  have a4 := nxI_in L _ a3
  repeat ((conv => whnf); first | refine Cd.seq ?_ | refine Cd.cut ?_ | refine Cd.reg ?_ | refine Cd.block ?_ | refine Cd.cond ?_ | refine Cd.dreg ?_ | refine Cd.skip ?_ | refine Cd.ret ?_ | refine Cd.exit ?_ | refine Cd.loop ?_ | refine ⟨rfl, ?_⟩ | refine ⟨Nat.le_of_ble_eq_true rfl, ?_⟩ | refine ⟨.inl rfl, ?_⟩ | refine ⟨fun h => Bool.noConfusion h, ?_⟩ | refine .inr ⟨fun _ => ⟨[0], _, _, _, ok7n L _ _ hL (by omega) (by omega) (by omega), ⟨rfl, rfl, trivial⟩, rfl, rfl, rfl, rfl, ?_⟩, (by intro h; cases h)⟩ | refine .inr ⟨fun _ => ⟨[0], _, _, _, ok8 L _ hL (by omega), ⟨rfl, rfl, trivial⟩, rfl, rfl, rfl, rfl, ?_⟩, (by intro h; cases h)⟩)
  conv => whnf
  refine ⟨Stm × Nat, fun p => p.2 ≤ L.length, fun p => s3a L p.1 p.2, ?_, fun p hp => ?_⟩
  · repeat ((conv => whnf); first | refine Cd.seq ?_ | refine Cd.cut ?_ | refine Cd.reg ?_ | refine Cd.block ?_ | refine Cd.cond ?_ | refine Cd.dreg ?_ | refine Cd.skip ?_ | refine Cd.ret ?_ | refine Cd.exit ?_ | refine Cd.loop ?_ | refine ⟨rfl, ?_⟩ | refine ⟨Nat.le_of_ble_eq_true rfl, ?_⟩ | refine ⟨.inl rfl, ?_⟩ | refine ⟨fun h => Bool.noConfusion h, ?_⟩ | refine .inr ⟨fun _ => ⟨[0], _, _, _, ok7n L _ _ hL (by omega) (by omega) (by omega), ⟨rfl, rfl, trivial⟩, rfl, rfl, rfl, rfl, ?_⟩, (by intro h; cases h)⟩ | refine .inr ⟨fun _ => ⟨[0], _, _, _, ok8 L _ hL (by omega), ⟨rfl, rfl, trivial⟩, rfl, rfl, rfl, rfl, ?_⟩, (by intro h; cases h)⟩)
    conv => whnf
    refine ⟨fun c2 => ?_, fun c2 => ?_⟩ <;> try simp only [Bool.cond_true_left, Bool.cond_false_right, Bool.not_eq_true', Bool.not_eq_false', Bool.not_not] at c2
    · repeat ((conv => whnf); first | refine Cd.seq ?_ | refine Cd.cut ?_ | refine Cd.reg ?_ | refine Cd.block ?_ | refine Cd.cond ?_ | refine Cd.dreg ?_ | refine Cd.skip ?_ | refine Cd.ret ?_ | refine Cd.exit ?_ | refine Cd.loop ?_ | refine ⟨rfl, ?_⟩ | refine ⟨Nat.le_of_ble_eq_true rfl, ?_⟩ | refine ⟨.inl rfl, ?_⟩ | refine ⟨fun h => Bool.noConfusion h, ?_⟩ | refine .inr ⟨fun _ => ⟨[0], _, _, _, ok7n L _ _ hL (by omega) (by omega) (by omega), ⟨rfl, rfl, trivial⟩, rfl, rfl, rfl, rfl, ?_⟩, (by intro h; cases h)⟩ | refine .inr ⟨fun _ => ⟨[0], _, _, _, ok8 L _ hL (by omega), ⟨rfl, rfl, trivial⟩, rfl, rfl, rfl, rfl, ?_⟩, (by intro h; cases h)⟩)
      conv => whnf
      refine ⟨(⟨x.kind, x.start, x.stop, x.step, IntKind.i64.wrap (x.hits + 2), x.stamp⟩, nxI L J), a1, ?_⟩
      refine viewI [some ?k119_0, some ?k119_1] rfl rfl ?h3_119 ?h4_119 ?h5_119 ?h6_119 ?h7_119
      case' h7_119 => repeat' (first | exact trivial | rfl | exact .inl rfl | exact .inr rfl | exact id | exact (fun h => Bool.noConfusion h) | refine And.intro ?_ ?_)
      case' h4_119 => rfl
      case' h6_119 => rfl
      case' h3_119 => repeat' (first | exact trivial | rfl | exact .inl rfl | exact .inr rfl | exact id | exact (fun h => Bool.noConfusion h) | refine And.intro ?_ ?_)
      case' h5_119 => repeat' (first | exact trivial | rfl | exact .inl rfl | exact .inr rfl | exact id | exact (fun h => Bool.noConfusion h) | refine And.intro ?_ ?_)
    repeat ((conv => whnf); first | refine Cd.seq ?_ | refine Cd.cut ?_ | refine Cd.reg ?_ | refine Cd.block ?_ | refine Cd.cond ?_ | refine Cd.dreg ?_ | refine Cd.skip ?_ | refine Cd.ret ?_ | refine Cd.exit ?_ | refine Cd.loop ?_ | refine ⟨rfl, ?_⟩ | refine ⟨Nat.le_of_ble_eq_true rfl, ?_⟩ | refine ⟨.inl rfl, ?_⟩ | refine ⟨fun h => Bool.noConfusion h, ?_⟩ | refine .inr ⟨fun _ => ⟨[0], _, _, _, ok7n L _ _ hL (by omega) (by omega) (by omega), ⟨rfl, rfl, trivial⟩, rfl, rfl, rfl, rfl, ?_⟩, (by intro h; cases h)⟩ | refine .inr ⟨fun _ => ⟨[0], _, _, _, ok8 L _ hL (by omega), ⟨rfl, rfl, trivial⟩, rfl, rfl, rfl, rfl, ?_⟩, (by intro h; cases h)⟩)
    conv => whnf
    refine ⟨(x, nxI L J), a1, ?_⟩
    refine viewI [some ?k128_0, some ?k128_1] rfl rfl ?h3_128 ?h4_128 ?h5_128 ?h6_128 ?h7_128
    case' h7_128 => repeat' (first | exact trivial | rfl | exact .inl rfl | exact .inr rfl | exact id | exact (fun h => Bool.noConfusion h) | refine And.intro ?_ ?_)
    case' h4_128 => rfl
    case' h6_128 => rfl
    case' h3_128 => repeat' (first | exact trivial | rfl | exact .inl rfl | exact .inr rfl | exact id | exact (fun h => Bool.noConfusion h) | refine And.intro ?_ ?_)
    case' h5_128 => repeat' (first | exact trivial | rfl | exact .inl rfl | exact .inr rfl | exact id | exact (fun h => Bool.noConfusion h) | refine And.intro ?_ ?_)
  clear a1 a2 a3 a4
  obtain ⟨x, J⟩ := p
  have hp : J ≤ L.length := hp
  have a1 := nxI_in L J hp
  have a2 := nxI_in L _ a1
  have a3 := nxI_in L _ a2
  have a4 := nxI_in L _ a3
  repeat ((conv => whnf); first | refine Cd.seq ?_ | refine Cd.cut ?_ | refine Cd.reg ?_ | refine Cd.block ?_ | refine Cd.cond ?_ | refine Cd.dreg ?_ | refine Cd.skip ?_ | refine Cd.ret ?_ | refine Cd.exit ?_ | refine Cd.loop ?_ | refine ⟨rfl, ?_⟩ | refine ⟨Nat.le_of_ble_eq_true rfl, ?_⟩ | refine ⟨.inl rfl, ?_⟩ | refine ⟨fun h => Bool.noConfusion h, ?_⟩ | refine .inr ⟨fun _ => ⟨[0], _, _, _, ok7n L _ _ hL (by omega) (by omega) (by omega), ⟨rfl, rfl, trivial⟩, rfl, rfl, rfl, rfl, ?_⟩, (by intro h; cases h)⟩ | refine .inr ⟨fun _ => ⟨[0], _, _, _, ok8 L _ hL (by omega), ⟨rfl, rfl, trivial⟩, rfl, rfl, rfl, rfl, ?_⟩, (by intro h; cases h)⟩)
  conv => whnf
  refine ⟨Stm × Win × Nat, fun p => p.2.2 ≤ L.length, fun p => s3b L p.1 p.2.1 p.2.2, ?_, fun p hp => ?_⟩
  · repeat ((conv => whnf); first | refine Cd.seq ?_ | refine Cd.cut ?_ | refine Cd.reg ?_ | refine Cd.block ?_ | refine Cd.cond ?_ | refine Cd.dreg ?_ | refine Cd.skip ?_ | refine Cd.ret ?_ | refine Cd.exit ?_ | refine Cd.loop ?_ | refine ⟨rfl, ?_⟩ | refine ⟨Nat.le_of_ble_eq_true rfl, ?_⟩ | refine ⟨.inl rfl, ?_⟩ | refine ⟨fun h => Bool.noConfusion h, ?_⟩ | refine .inr ⟨fun _ => ⟨[0], _, _, _, ok7n L _ _ hL (by omega) (by omega) (by omega), ⟨rfl, rfl, trivial⟩, rfl, rfl, rfl, rfl, ?_⟩, (by intro h; cases h)⟩ | refine .inr ⟨fun _ => ⟨[0], _, _, _, ok8 L _ hL (by omega), ⟨rfl, rfl, trivial⟩, rfl, rfl, rfl, rfl, ?_⟩, (by intro h; cases h)⟩)
    conv => whnf
    refine ⟨fun c3 => ?_, fun c3 => ?_⟩ <;> try simp only [Bool.cond_true_left, Bool.cond_false_right, Bool.not_eq_true', Bool.not_eq_false', Bool.not_not] at c3
    · repeat ((conv => whnf); first | refine Cd.seq ?_ | refine Cd.cut ?_ | refine Cd.reg ?_ | refine Cd.block ?_ | refine Cd.cond ?_ | refine Cd.dreg ?_ | refine Cd.skip ?_ | refine Cd.ret ?_ | refine Cd.exit ?_ | refine Cd.loop ?_ | refine ⟨rfl, ?_⟩ | refine ⟨Nat.le_of_ble_eq_true rfl, ?_⟩ | refine ⟨.inl rfl, ?_⟩ | refine ⟨fun h => Bool.noConfusion h, ?_⟩ | refine .inr ⟨fun _ => ⟨[0], _, _, _, ok7n L _ _ hL (by omega) (by omega) (by omega), ⟨rfl, rfl, trivial⟩, rfl, rfl, rfl, rfl, ?_⟩, (by intro h; cases h)⟩ | refine .inr ⟨fun _ => ⟨[0], _, _, _, ok8 L _ hL (by omega), ⟨rfl, rfl, trivial⟩, rfl, rfl, rfl, rfl, ?_⟩, (by intro h; cases h)⟩)
      conv => whnf
      refine ⟨(x, zeroWin, nxI L (nxI L (nxI L (nxI L J)))), a4, ?_⟩
      refine viewI [some ?k150_0, some ?k150_1, some ?k150_2] rfl rfl ?h3_150 ?h4_150 ?h5_150 ?h6_150 ?h7_150
      case' h7_150 => repeat' (first | exact trivial | rfl | exact .inl rfl | exact .inr rfl | exact id | exact (fun h => Bool.noConfusion h) | refine And.intro ?_ ?_)
      case' h4_150 => rfl
      case' h6_150 => rfl
      case' h3_150 => repeat' (first | exact trivial | rfl | exact .inl rfl | exact .inr rfl | exact id | exact (fun h => Bool.noConfusion h) | refine And.intro ?_ ?_)
      case' h5_150 => repeat' (first | exact trivial | rfl | exact .inl rfl | exact .inr rfl | exact id | exact (fun h => Bool.noConfusion h) | refine And.intro ?_ ?_)
    repeat ((conv => whnf); first | refine Cd.seq ?_ | refine Cd.cut ?_ | refine Cd.reg ?_ | refine Cd.block ?_ | refine Cd.cond ?_ | refine Cd.dreg ?_ | refine Cd.skip ?_ | refine Cd.ret ?_ | refine Cd.exit ?_ | refine Cd.loop ?_ | refine ⟨rfl, ?_⟩ | refine ⟨Nat.le_of_ble_eq_true rfl, ?_⟩ | refine ⟨.inl rfl, ?_⟩ | refine ⟨fun h => Bool.noConfusion h, ?_⟩ | refine .inr ⟨fun _ => ⟨[0], _, _, _, ok7n L _ _ hL (by omega) (by omega) (by omega), ⟨rfl, rfl, trivial⟩, rfl, rfl, rfl, rfl, ?_⟩, (by intro h; cases h)⟩ | refine .inr ⟨fun _ => ⟨[0], _, _, _, ok8 L _ hL (by omega), ⟨rfl, rfl, trivial⟩, rfl, rfl, rfl, rfl, ?_⟩, (by intro h; cases h)⟩)
    conv => whnf
    refine ⟨(x, ⟨nxV L J 40, nxV L (nxI L J) 10, nxV L (nxI L (nxI L J)) 10⟩, nxI L (nxI L (nxI L (nxI L J)))), a4, ?_⟩
    refine viewI [some ?k159_0, some ?k159_1, some ?k159_2] rfl rfl ?h3_159 ?h4_159 ?h5_159 ?h6_159 ?h7_159
    case' h7_159 => repeat' (first | exact trivial | rfl | exact .inl rfl | exact .inr rfl | exact id | exact (fun h => Bool.noConfusion h) | refine And.intro ?_ ?_)
    case' h4_159 => rfl
    case' h6_159 => rfl
    case' h3_159 => repeat' (first | exact trivial | rfl | exact .inl rfl | exact .inr rfl | exact id | exact (fun h => Bool.noConfusion h) | refine And.intro ?_ ?_)
    case' h5_159 => repeat' (first | exact trivial | rfl | exact .inl rfl | exact .inr rfl | exact id | exact (fun h => Bool.noConfusion h) | refine And.intro ?_ ?_)
  clear a1 a2 a3 a4
  obtain ⟨x, w, J⟩ := p
  have hp : J ≤ L.length := hp
  have a1 := nxI_in L J hp
  have a2 := nxI_in L _ a1
  have a3 := nxI_in L _ a2
  have a4 := nxI_in L _ a3
  repeat ((conv => whnf); first | refine Cd.seq ?_ | refine Cd.cut ?_ | refine Cd.reg ?_ | refine Cd.block ?_ | refine Cd.cond ?_ | refine Cd.dreg ?_ | refine Cd.skip ?_ | refine Cd.ret ?_ | refine Cd.exit ?_ | refine Cd.loop ?_ | refine ⟨rfl, ?_⟩ | refine ⟨Nat.le_of_ble_eq_true rfl, ?_⟩ | refine ⟨.inl rfl, ?_⟩ | refine ⟨fun h => Bool.noConfusion h, ?_⟩ | refine .inr ⟨fun _ => ⟨[0], _, _, _, ok7n L _ _ hL (by omega) (by omega) (by omega), ⟨rfl, rfl, trivial⟩, rfl, rfl, rfl, rfl, ?_⟩, (by intro h; cases h)⟩ | refine .inr ⟨fun _ => ⟨[0], _, _, _, ok8 L _ hL (by omega), ⟨rfl, rfl, trivial⟩, rfl, rfl, rfl, rfl, ?_⟩, (by intro h; cases h)⟩)
  conv => whnf
  refine ⟨Stm × Win × Nat, fun p => p.2.2 ≤ L.length, fun p => s3b L p.1 p.2.1 p.2.2, ?_, fun p hp => ?_⟩
  · repeat ((conv => whnf); first | refine Cd.seq ?_ | refine Cd.cut ?_ | refine Cd.reg ?_ | refine Cd.block ?_ | refine Cd.cond ?_ | refine Cd.dreg ?_ | refine Cd.skip ?_ | refine Cd.ret ?_ | refine Cd.exit ?_ | refine Cd.loop ?_ | refine ⟨rfl, ?_⟩ | refine ⟨Nat.le_of_ble_eq_true rfl, ?_⟩ | refine ⟨.inl rfl, ?_⟩ | refine ⟨fun h => Bool.noConfusion h, ?_⟩ | refine .inr ⟨fun _ => ⟨[0], _, _, _, ok7n L _ _ hL (by omega) (by omega) (by omega), ⟨rfl, rfl, trivial⟩, rfl, rfl, rfl, rfl, ?_⟩, (by intro h; cases h)⟩ | refine .inr ⟨fun _ => ⟨[0], _, _, _, ok8 L _ hL (by omega), ⟨rfl, rfl, trivial⟩, rfl, rfl, rfl, rfl, ?_⟩, (by intro h; cases h)⟩)
    conv => whnf
    refine ⟨fun c4 => ?_, fun c4 => ?_⟩ <;> try simp only [Bool.cond_true_left, Bool.cond_false_right, Bool.not_eq_true', Bool.not_eq_false', Bool.not_not] at c4
    · repeat ((conv => whnf); first | refine Cd.seq ?_ | refine Cd.cut ?_ | refine Cd.reg ?_ | refine Cd.block ?_ | refine Cd.cond ?_ | refine Cd.dreg ?_ | refine Cd.skip ?_ | refine Cd.ret ?_ | refine Cd.exit ?_ | refine Cd.loop ?_ | refine ⟨rfl, ?_⟩ | refine ⟨Nat.le_of_ble_eq_true rfl, ?_⟩ | refine ⟨.inl rfl, ?_⟩ | refine ⟨fun h => Bool.noConfusion h, ?_⟩ | refine .inr ⟨fun _ => ⟨[0], _, _, _, ok7n L _ _ hL (by omega) (by omega) (by omega), ⟨rfl, rfl, trivial⟩, rfl, rfl, rfl, rfl, ?_⟩, (by intro h; cases h)⟩ | refine .inr ⟨fun _ => ⟨[0], _, _, _, ok8 L _ hL (by omega), ⟨rfl, rfl, trivial⟩, rfl, rfl, rfl, rfl, ?_⟩, (by intro h; cases h)⟩)
      conv => whnf
      refine ⟨(x, ⟨oddF L (nxI L J), w.size, w.async⟩, nxI L (nxI L J)), a2, ?_⟩
      refine viewI [some ?k181_0, some ?k181_1, some ?k181_2] rfl rfl ?h3_181 ?h4_181 ?h5_181 ?h6_181 ?h7_181
      case' h7_181 => repeat' (first | exact trivial | rfl | exact .inl rfl | exact .inr rfl | exact id | exact (fun h => Bool.noConfusion h) | refine And.intro ?_ ?_)
      case' h4_181 => rfl
      case' h6_181 => rfl
      case' h3_181 => repeat' (first | exact trivial | rfl | exact .inl rfl | exact .inr rfl | exact id | exact (fun h => Bool.noConfusion h) | refine And.intro ?_ ?_)
      case' h5_181 => repeat' (first | exact trivial | rfl | exact .inl rfl | exact .inr rfl | exact id | exact (fun h => Bool.noConfusion h) | refine And.intro ?_ ?_)
    repeat ((conv => whnf); first | refine Cd.seq ?_ | refine Cd.cut ?_ | refine Cd.reg ?_ | refine Cd.block ?_ | refine Cd.cond ?_ | refine Cd.dreg ?_ | refine Cd.skip ?_ | refine Cd.ret ?_ | refine Cd.exit ?_ | refine Cd.loop ?_ | refine ⟨rfl, ?_⟩ | refine ⟨Nat.le_of_ble_eq_true rfl, ?_⟩ | refine ⟨.inl rfl, ?_⟩ | refine ⟨fun h => Bool.noConfusion h, ?_⟩ | refine .inr ⟨fun _ => ⟨[0], _, _, _, ok7n L _ _ hL (by omega) (by omega) (by omega), ⟨rfl, rfl, trivial⟩, rfl, rfl, rfl, rfl, ?_⟩, (by intro h; cases h)⟩ | refine .inr ⟨fun _ => ⟨[0], _, _, _, ok8 L _ hL (by omega), ⟨rfl, rfl, trivial⟩, rfl, rfl, rfl, rfl, ?_⟩, (by intro h; cases h)⟩)
    conv => whnf
    refine ⟨(x, w, nxI L J), a1, ?_⟩
    refine viewI [some ?k190_0, some ?k190_1, some ?k190_2] rfl rfl ?h3_190 ?h4_190 ?h5_190 ?h6_190 ?h7_190
    case' h7_190 => repeat' (first | exact trivial | rfl | exact .inl rfl | exact .inr rfl | exact id | exact (fun h => Bool.noConfusion h) | refine And.intro ?_ ?_)
    case' h4_190 => rfl
    case' h6_190 => rfl
    case' h3_190 => repeat' (first | exact trivial | rfl | exact .inl rfl | exact .inr rfl | exact id | exact (fun h => Bool.noConfusion h) | refine And.intro ?_ ?_)
    case' h5_190 => repeat' (first | exact trivial | rfl | exact .inl rfl | exact .inr rfl | exact id | exact (fun h => Bool.noConfusion h) | refine And.intro ?_ ?_)
  clear a1 a2 a3 a4
  obtain ⟨x, w, J⟩ := p
  have hp : J ≤ L.length := hp
  have a1 := nxI_in L J hp
  have a2 := nxI_in L _ a1
  have a3 := nxI_in L _ a2
  have a4 := nxI_in L _ a3
  repeat ((conv => whnf); first | refine Cd.seq ?_ | refine Cd.cut ?_ | refine Cd.reg ?_ | refine Cd.block ?_ | refine Cd.cond ?_ | refine Cd.dreg ?_ | refine Cd.skip ?_ | refine Cd.ret ?_ | refine Cd.exit ?_ | refine Cd.loop ?_ | refine ⟨rfl, ?_⟩ | refine ⟨Nat.le_of_ble_eq_true rfl, ?_⟩ | refine ⟨.inl rfl, ?_⟩ | refine ⟨fun h => Bool.noConfusion h, ?_⟩ | refine .inr ⟨fun _ => ⟨[0], _, _, _, ok7n L _ _ hL (by omega) (by omega) (by omega), ⟨rfl, rfl, trivial⟩, rfl, rfl, rfl, rfl, ?_⟩, (by intro h; cases h)⟩ | refine .inr ⟨fun _ => ⟨[0], _, _, _, ok8 L _ hL (by omega), ⟨rfl, rfl, trivial⟩, rfl, rfl, rfl, rfl, ?_⟩, (by intro h; cases h)⟩)
  conv => whnf
  refine ⟨Stm × Win × Int × Int × Int × Nat, fun p => p.2.2.2.2.2 ≤ L.length, fun p => s3c L p.1 p.2.1 p.2.2.1 p.2.2.2.1 p.2.2.2.2.1 p.2.2.2.2.2, ?_, fun p hp => ?_⟩
  · repeat ((conv => whnf); first | refine Cd.seq ?_ | refine Cd.cut ?_ | refine Cd.reg ?_ | refine Cd.block ?_ | refine Cd.cond ?_ | refine Cd.dreg ?_ | refine Cd.skip ?_ | refine Cd.ret ?_ | refine Cd.exit ?_ | refine Cd.loop ?_ | refine ⟨rfl, ?_⟩ | refine ⟨Nat.le_of_ble_eq_true rfl, ?_⟩ | refine ⟨.inl rfl, ?_⟩ | refine ⟨fun h => Bool.noConfusion h, ?_⟩ | refine .inr ⟨fun _ => ⟨[0], _, _, _, ok7n L _ _ hL (by omega) (by omega) (by omega), ⟨rfl, rfl, trivial⟩, rfl, rfl, rfl, rfl, ?_⟩, (by intro h; cases h)⟩ | refine .inr ⟨fun _ => ⟨[0], _, _, _, ok8 L _ hL (by omega), ⟨rfl, rfl, trivial⟩, rfl, rfl, rfl, rfl, ?_⟩, (by intro h; cases h)⟩)
    conv => whnf
    refine ⟨fun c5 => ?_, fun c5 => ?_⟩ <;> try simp only [Bool.cond_true_left, Bool.cond_false_right, Bool.not_eq_true', Bool.not_eq_false', Bool.not_not] at c5
    · repeat ((conv => whnf); first | refine Cd.seq ?_ | refine Cd.cut ?_ | refine Cd.reg ?_ | refine Cd.block ?_ | refine Cd.cond ?_ | refine Cd.dreg ?_ | refine Cd.skip ?_ | refine Cd.ret ?_ | refine Cd.exit ?_ | refine Cd.loop ?_ | refine ⟨rfl, ?_⟩ | refine ⟨Nat.le_of_ble_eq_true rfl, ?_⟩ | refine ⟨.inl rfl, ?_⟩ | refine ⟨fun h => Bool.noConfusion h, ?_⟩ | refine .inr ⟨fun _ => ⟨[0], _, _, _, ok7n L _ _ hL (by omega) (by omega) (by omega), ⟨rfl, rfl, trivial⟩, rfl, rfl, rfl, rfl, ?_⟩, (by intro h; cases h)⟩ | refine .inr ⟨fun _ => ⟨[0], _, _, _, ok8 L _ hL (by omega), ⟨rfl, rfl, trivial⟩, rfl, rfl, rfl, rfl, ?_⟩, (by intro h; cases h)⟩)
      conv => whnf
      refine ⟨(x, w, nxV L (nxI L (nxI L J)) 40, nxV L (nxI L (nxI L (nxI L J))) 44, nxV L J 45, nxI L (nxI L (nxI L (nxI L J)))), a4, ?_⟩
      refine viewI [some ?k212_0, some ?k212_1, some ?k212_2] rfl rfl ?h3_212 ?h4_212 ?h5_212 ?h6_212 ?h7_212
      case' h7_212 => repeat' (first | exact trivial | rfl | exact .inl rfl | exact .inr rfl | exact id | exact (fun h => Bool.noConfusion h) | refine And.intro ?_ ?_)
      case' h4_212 => rfl
      case' h6_212 => rfl
      case' h3_212 => repeat' (first | exact trivial | rfl | exact .inl rfl | exact .inr rfl | exact id | exact (fun h => Bool.noConfusion h) | refine And.intro ?_ ?_)
      case' h5_212 => repeat' (first | exact trivial | rfl | exact .inl rfl | exact .inr rfl | exact id | exact (fun h => Bool.noConfusion h) | refine And.intro ?_ ?_)
    repeat ((conv => whnf); first | refine Cd.seq ?_ | refine Cd.cut ?_ | refine Cd.reg ?_ | refine Cd.block ?_ | refine Cd.cond ?_ | refine Cd.dreg ?_ | refine Cd.skip ?_ | refine Cd.ret ?_ | refine Cd.exit ?_ | refine Cd.loop ?_ | refine ⟨rfl, ?_⟩ | refine ⟨Nat.le_of_ble_eq_true rfl, ?_⟩ | refine ⟨.inl rfl, ?_⟩ | refine ⟨fun h => Bool.noConfusion h, ?_⟩ | refine .inr ⟨fun _ => ⟨[0], _, _, _, ok7n L _ _ hL (by omega) (by omega) (by omega), ⟨rfl, rfl, trivial⟩, rfl, rfl, rfl, rfl, ?_⟩, (by intro h; cases h)⟩ | refine .inr ⟨fun _ => ⟨[0], _, _, _, ok8 L _ hL (by omega), ⟨rfl, rfl, trivial⟩, rfl, rfl, rfl, rfl, ?_⟩, (by intro h; cases h)⟩)
    conv => whnf
    refine ⟨(x, w, x.start, x.stop, nxV L J 45, nxI L (nxI L J)), a2, ?_⟩
    refine viewI [some ?k221_0, some ?k221_1, some ?k221_2] rfl rfl ?h3_221 ?h4_221 ?h5_221 ?h6_221 ?h7_221
    case' h7_221 => repeat' (first | exact trivial | rfl | exact .inl rfl | exact .inr rfl | exact id | exact (fun h => Bool.noConfusion h) | refine And.intro ?_ ?_)
    case' h4_221 => rfl
    case' h6_221 => rfl
    case' h3_221 => repeat' (first | exact trivial | rfl | exact .inl rfl | exact .inr rfl | exact id | exact (fun h => Bool.noConfusion h) | refine And.intro ?_ ?_)
    case' h5_221 => repeat' (first | exact trivial | rfl | exact .inl rfl | exact .inr rfl | exact id | exact (fun h => Bool.noConfusion h) | refine And.intro ?_ ?_)
  clear a1 a2 a3 a4
  obtain ⟨x, w, a, b, e, J⟩ := p
  have hp : J ≤ L.length := hp
  have a1 := nxI_in L J hp
  have a2 := nxI_in L _ a1
  have a3 := nxI_in L _ a2
  have a4 := nxI_in L _ a3
  repeat ((conv => whnf); first | refine Cd.seq ?_ | refine Cd.cut ?_ | refine Cd.reg ?_ | refine Cd.block ?_ | refine Cd.cond ?_ | refine Cd.dreg ?_ | refine Cd.skip ?_ | refine Cd.ret ?_ | refine Cd.exit ?_ | refine Cd.loop ?_ | refine ⟨rfl, ?_⟩ | refine ⟨Nat.le_of_ble_eq_true rfl, ?_⟩ | refine ⟨.inl rfl, ?_⟩ | refine ⟨fun h => Bool.noConfusion h, ?_⟩ | refine .inr ⟨fun _ => ⟨[0], _, _, _, ok7n L _ _ hL (by omega) (by omega) (by omega), ⟨rfl, rfl, trivial⟩, rfl, rfl, rfl, rfl, ?_⟩, (by intro h; cases h)⟩ | refine .inr ⟨fun _ => ⟨[0], _, _, _, ok8 L _ hL (by omega), ⟨rfl, rfl, trivial⟩, rfl, rfl, rfl, rfl, ?_⟩, (by intro h; cases h)⟩)
  conv => whnf
  refine ⟨Stm × Win × Int × Int × Int × Nat, fun p => p.2.2.2.2.2 ≤ L.length, fun p => s3c L p.1 p.2.1 p.2.2.1 p.2.2.2.1 p.2.2.2.2.1 p.2.2.2.2.2, ?_, fun p hp => ?_⟩
  · repeat ((conv => whnf); first | refine Cd.seq ?_ | refine Cd.cut ?_ | refine Cd.reg ?_ | refine Cd.block ?_ | refine Cd.cond ?_ | refine Cd.dreg ?_ | refine Cd.skip ?_ | refine Cd.ret ?_ | refine Cd.exit ?_ | refine Cd.loop ?_ | refine ⟨rfl, ?_⟩ | refine ⟨Nat.le_of_ble_eq_true rfl, ?_⟩ | refine ⟨.inl rfl, ?_⟩ | refine ⟨fun h => Bool.noConfusion h, ?_⟩ | refine .inr ⟨fun _ => ⟨[0], _, _, _, ok7n L _ _ hL (by omega) (by omega) (by omega), ⟨rfl, rfl, trivial⟩, rfl, rfl, rfl, rfl, ?_⟩, (by intro h; cases h)⟩ | refine .inr ⟨fun _ => ⟨[0], _, _, _, ok8 L _ hL (by omega), ⟨rfl, rfl, trivial⟩, rfl, rfl, rfl, rfl, ?_⟩, (by intro h; cases h)⟩)
    conv => whnf
    refine ⟨fun c6 => ?_, fun c6 => ?_⟩ <;> try simp only [Bool.cond_true_left, Bool.cond_false_right, Bool.not_eq_true', Bool.not_eq_false', Bool.not_not] at c6
    · repeat ((conv => whnf); first | refine Cd.seq ?_ | refine Cd.cut ?_ | refine Cd.reg ?_ | refine Cd.block ?_ | refine Cd.cond ?_ | refine Cd.dreg ?_ | refine Cd.skip ?_ | refine Cd.ret ?_ | refine Cd.exit ?_ | refine Cd.loop ?_ | refine ⟨rfl, ?_⟩ | refine ⟨Nat.le_of_ble_eq_true rfl, ?_⟩ | refine ⟨.inl rfl, ?_⟩ | refine ⟨fun h => Bool.noConfusion h, ?_⟩ | refine .inr ⟨fun _ => ⟨[0], _, _, _, ok7n L _ _ hL (by omega) (by omega) (by omega), ⟨rfl, rfl, trivial⟩, rfl, rfl, rfl, rfl, ?_⟩, (by intro h; cases h)⟩ | refine .inr ⟨fun _ => ⟨[0], _, _, _, ok8 L _ hL (by omega), ⟨rfl, rfl, trivial⟩, rfl, rfl, rfl, rfl, ?_⟩, (by intro h; cases h)⟩)
      conv => whnf
      refine ⟨(x, w, a, b, oddF L (nxI L J), nxI L (nxI L J)), a2, ?_⟩
      refine viewI [some ?k243_0, some ?k243_1, some ?k243_2] rfl rfl ?h3_243 ?h4_243 ?h5_243 ?h6_243 ?h7_243
      case' h7_243 => repeat' (first | exact trivial | rfl | exact .inl rfl | exact .inr rfl | exact id | exact (fun h => Bool.noConfusion h) | refine And.intro ?_ ?_)
      case' h4_243 => rfl
      case' h6_243 => rfl
      case' h3_243 => repeat' (first | exact trivial | rfl | exact .inl rfl | exact .inr rfl | exact id | exact (fun h => Bool.noConfusion h) | refine And.intro ?_ ?_)
      case' h5_243 => repeat' (first | exact trivial | rfl | exact .inl rfl | exact .inr rfl | exact id | exact (fun h => Bool.noConfusion h) | refine And.intro ?_ ?_)
    repeat ((conv => whnf); first | refine Cd.seq ?_ | refine Cd.cut ?_ | refine Cd.reg ?_ | refine Cd.block ?_ | refine Cd.cond ?_ | refine Cd.dreg ?_ | refine Cd.skip ?_ | refine Cd.ret ?_ | refine Cd.exit ?_ | refine Cd.loop ?_ | refine ⟨rfl, ?_⟩ | refine ⟨Nat.le_of_ble_eq_true rfl, ?_⟩ | refine ⟨.inl rfl, ?_⟩ | refine ⟨fun h => Bool.noConfusion h, ?_⟩ | refine .inr ⟨fun _ => ⟨[0], _, _, _, ok7n L _ _ hL (by omega) (by omega) (by omega), ⟨rfl, rfl, trivial⟩, rfl, rfl, rfl, rfl, ?_⟩, (by intro h; cases h)⟩ | refine .inr ⟨fun _ => ⟨[0], _, _, _, ok8 L _ hL (by omega), ⟨rfl, rfl, trivial⟩, rfl, rfl, rfl, rfl, ?_⟩, (by intro h; cases h)⟩)
    conv => whnf
    refine ⟨(x, w, a, b, e, nxI L J), a1, ?_⟩
    refine viewI [some ?k252_0, some ?k252_1, some ?k252_2] rfl rfl ?h3_252 ?h4_252 ?h5_252 ?h6_252 ?h7_252
    case' h7_252 => repeat' (first | exact trivial | rfl | exact .inl rfl | exact .inr rfl | exact id | exact (fun h => Bool.noConfusion h) | refine And.intro ?_ ?_)
    case' h4_252 => rfl
    case' h6_252 => rfl
    case' h3_252 => repeat' (first | exact trivial | rfl | exact .inl rfl | exact .inr rfl | exact id | exact (fun h => Bool.noConfusion h) | refine And.intro ?_ ?_)
    case' h5_252 => repeat' (first | exact trivial | rfl | exact .inl rfl | exact .inr rfl | exact id | exact (fun h => Bool.noConfusion h) | refine And.intro ?_ ?_)
  clear a1 a2 a3 a4
  obtain ⟨x, w, a, b, e, J⟩ := p
  have hp : J ≤ L.length := hp
  have ho := oddF_in L J
  repeat ((conv => whnf); first | refine Cd.seq ?_ | refine Cd.cut ?_ | refine Cd.reg ?_ | refine Cd.block ?_ | refine Cd.cond ?_ | refine Cd.dreg ?_ | refine Cd.skip ?_ | refine Cd.ret ?_ | refine Cd.exit ?_ | refine Cd.loop ?_ | refine ⟨rfl, ?_⟩ | refine ⟨Nat.le_of_ble_eq_true rfl, ?_⟩ | refine ⟨.inl rfl, ?_⟩ | refine ⟨fun h => Bool.noConfusion h, ?_⟩ | refine .inr ⟨fun _ => ⟨[0], _, _, _, ok7n L _ _ hL (by omega) (by omega) (by omega), ⟨rfl, rfl, trivial⟩, rfl, rfl, rfl, rfl, ?_⟩, (by intro h; cases h)⟩ | refine .inr ⟨fun _ => ⟨[0], _, _, _, ok8 L _ hL (by omega), ⟨rfl, rfl, trivial⟩, rfl, rfl, rfl, rfl, ?_⟩, (by intro h; cases h)⟩)
  conv => whnf
  generalize oddF L J = n at ho
  have hl := planF_len w x a b e
  repeat ((conv => whnf); first | refine Cd.seq ?_ | refine Cd.cut ?_ | refine Cd.reg ?_ | refine Cd.block ?_ | refine Cd.cond ?_ | refine Cd.dreg ?_ | refine Cd.skip ?_ | refine Cd.ret ?_ | refine Cd.exit ?_ | refine Cd.loop ?_ | refine ⟨rfl, ?_⟩ | refine ⟨Nat.le_of_ble_eq_true rfl, ?_⟩ | refine ⟨.inl rfl, ?_⟩ | refine ⟨fun h => Bool.noConfusion h, ?_⟩ | refine .inl ⟨_, fun _ => ⟨purA rfl, (by first | exact okD9 w x a b e | exact okD10 w x a b e)⟩, .inl rfl, ?_⟩ | refine .inr ⟨fun _ => ⟨[0], _, _, _, ok7n L _ _ hL (by omega) (by omega) (by omega), ⟨rfl, rfl, trivial⟩, rfl, rfl, rfl, rfl, ?_⟩, (by intro h; cases h)⟩ | refine .inr ⟨fun _ => ⟨[0], _, _, _, ok8 L _ hL (by omega), ⟨rfl, rfl, trivial⟩, rfl, rfl, rfl, rfl, ?_⟩, (by intro h; cases h)⟩)
  conv => whnf
  generalize planF w x a b e = q at hl
  obtain ⟨v, l, k⟩ := q
  repeat ((conv => whnf); first | refine Cd.seq ?_ | refine Cd.cut ?_ | refine Cd.reg ?_ | refine Cd.block ?_ | refine Cd.cond ?_ | refine Cd.dreg ?_ | refine Cd.skip ?_ | refine Cd.ret ?_ | refine Cd.exit ?_ | refine Cd.loop ?_ | refine ⟨rfl, ?_⟩ | refine ⟨Nat.le_of_ble_eq_true rfl, ?_⟩ | refine ⟨.inl rfl, ?_⟩ | refine ⟨fun h => Bool.noConfusion h, ?_⟩ | refine .inl ⟨_, fun _ => ⟨purA rfl, (by first | exact okD11 w | exact okD12 w)⟩, .inl rfl, ?_⟩ | refine .inr ⟨fun _ => ⟨[0], _, _, _, ok7n L _ _ hL (by omega) (by omega) (by omega), ⟨rfl, rfl, trivial⟩, rfl, rfl, rfl, rfl, ?_⟩, (by intro h; cases h)⟩ | refine .inr ⟨fun _ => ⟨[0], _, _, _, ok8 L _ hL (by omega), ⟨rfl, rfl, trivial⟩, rfl, rfl, rfl, rfl, ?_⟩, (by intro h; cases h)⟩)
  conv => whnf
  generalize markerF w = mk
  obtain ⟨m, ok⟩ := mk
  have c13 := ok13 l l false false (by have : l.length ≤ 8 := hl; omega)
  rw [decide_eq_true rfl] at c13
  repeat ((conv => whnf); first | refine Cd.seq ?_ | refine Cd.cut ?_ | refine Cd.reg ?_ | refine Cd.block ?_ | refine Cd.cond ?_ | refine Cd.dreg ?_ | refine Cd.skip ?_ | refine Cd.ret ?_ | refine Cd.exit ?_ | refine Cd.loop ?_ | refine ⟨rfl, ?_⟩ | refine ⟨Nat.le_of_ble_eq_true rfl, ?_⟩ | refine ⟨.inl rfl, ?_⟩ | refine ⟨fun h => Bool.noConfusion h, ?_⟩ | refine .inl ⟨_, fun _ => ⟨purA rfl, (by first | exact c13 | exact okD14 w | exact okD15 w | exact okD16 n | exact okD17 n | exact okD18 n | exact okD19 n ho | exact okD20)⟩, .inl rfl, ?_⟩ | refine .inr ⟨fun _ => ⟨[0], _, _, _, ok7n L _ _ hL (by omega) (by omega) (by omega), ⟨rfl, rfl, trivial⟩, rfl, rfl, rfl, rfl, ?_⟩, (by intro h; cases h)⟩ | refine .inr ⟨fun _ => ⟨[0], _, _, _, ok8 L _ hL (by omega), ⟨rfl, rfl, trivial⟩, rfl, rfl, rfl, rfl, ?_⟩, (by intro h; cases h)⟩)
  conv => whnf
  simp only [beq_self_eq_true, Bool.and_self, cond_true]
  refine ⟨[], ?_, rfl, trivial, rfl, ?_⟩
  · exact trivial
  try subst hk
  repeat' (first | exact trivial | rfl | exact .inl rfl | exact .inr rfl | exact id | exact (fun h => Bool.noConfusion h) | refine And.intro ?_ ?_)
end Go.Proofs.YteelckbeekgfiaaDoor
