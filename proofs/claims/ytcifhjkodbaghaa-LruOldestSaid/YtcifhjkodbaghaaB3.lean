/- Zone: end, right, Check; the reference's Check. -/
import Derived.Test.YtcifhjkodbaghaaB2
set_option linter.unusedSimpArgs false
set_option linter.unusedVariables false
namespace Go.Proofs.Ytcifhjkodbaghaa
open Go Go.Sk Go.RowKit

/- pagecache/zone.end -/
def rc59 : RC :=
  (.seq
  (.reg [⟨(some 1), none, (.box (.t 0))⟩,
    ⟨(some 2), none, (.mv (.c (.int .i64 0)))⟩] [])
  (.seq
  (.reg [⟨(some 3), none, (.faddr 0 (.t 1))⟩,
    ⟨(some 4), none, (.ld false 1 (.t 3))⟩,
    ⟨(some 5), none, (.faddr 1 (.t 1))⟩,
    ⟨(some 6), none, (.ld false 1 (.t 5))⟩,
    ⟨(some 7), none, (.bin .add (.t 4) (.t 6))⟩,
    ⟨(some 2), none, (.mv (.t 7))⟩] [3, 4, 5, 6, 7])
  .ret))
theorem rcq59 : resC Go.Proofs.Try.prog Go.Proofs.Try.f59.ntmps ((Go.Proofs.Try.f59.body).getD .skip) = some (strip rc59) := by kernel_rfl
def rv59 : List RV := [(.tmp 2)]
theorem rvq59 : Go.Proofs.Try.f59.results.toList.mapM (resRV Go.Proofs.Try.prog) = some rv59 := by kernel_rfl

/- pagecache/zone.right -/
def rc62 : RC :=
  (.seq
  (.reg [⟨(some 2), none, (.box (.t 0))⟩,
    ⟨(some 4), none, (.mv (.c (.bool false)))⟩] [])
  (.seq
  (.seq
  (.reg [⟨(some 7), none, (.faddr 0 (.t 2))⟩,
    ⟨(some 8), none, (.ld false 1 (.t 7))⟩,
    ⟨(some 9), none, (.mv (.t 1))⟩,
    ⟨(some 10), none, (.bin .neq (.t 8) (.t 9))⟩,
    ⟨(some 11), none, (.mv (.t 10))⟩,
    ⟨(some 12), (some (11, false)), (.faddr 1 (.t 2))⟩,
    ⟨(some 13), (some (11, false)), (.ld false 1 (.t 12))⟩,
    ⟨(some 14), (some (11, false)), (.bin .lss (.t 13) (.c (.int .i64 1)))⟩,
    ⟨(some 15), none, (.pick (.t 11) (.c (.bool true)) (.t 14))⟩,
    ⟨(some 16), none, (.mv (.t 15))⟩,
    ⟨(some 17), (some (16, false)), (.faddr 1 (.t 2))⟩,
    ⟨(some 18), (some (16, false)), (.ld false 1 (.t 17))⟩,
    ⟨(some 19), (some (16, false)), (.bin .gtr (.t 18) (.c (.int .i64 64)))⟩,
    ⟨(some 20), none, (.pick (.t 16) (.c (.bool true)) (.t 19))⟩,
    ⟨(some 21), none, (.mv (.t 20))⟩,
    ⟨(some 22), (some (21, false)), (.ld true 6 (.t 2))⟩,
    ⟨(some 23), (some (21, false)), (.call 59 [(.t 22)])⟩,
    ⟨(some 24), (some (21, false)), (.bin .gtr (.t 23) (.c (.int .i64 65)))⟩,
    ⟨(some 25), none, (.pick (.t 21) (.c (.bool true)) (.t 24))⟩] [7, 8, 9, 10, 11, 12, 13, 14, 15, 16, 17, 18, 19, 20, 21, 22, 23, 24])
  (.cond (.t 25)
   (.seq
   (.reg [⟨(some 4), none, (.mv (.c (.bool false)))⟩] [])
   .ret)
   .skip))
  (.seq
  (.seq
  (.reg [⟨(some 26), none, (.faddr 2 (.t 2))⟩,
    ⟨(some 27), none, (.ld false 1 (.t 26))⟩,
    ⟨(some 28), none, (.bin .lss (.t 27) (.c (.int .i64 0)))⟩,
    ⟨(some 29), none, (.mv (.t 28))⟩,
    ⟨(some 30), (some (29, false)), (.faddr 2 (.t 2))⟩,
    ⟨(some 31), (some (29, false)), (.ld false 1 (.t 30))⟩,
    ⟨(some 32), (some (29, false)), (.faddr 3 (.t 2))⟩,
    ⟨(some 33), (some (29, false)), (.ld false 1 (.t 32))⟩,
    ⟨(some 34), (some (29, false)), (.bin .gtr (.t 31) (.t 33))⟩,
    ⟨(some 35), none, (.pick (.t 29) (.c (.bool true)) (.t 34))⟩,
    ⟨(some 36), none, (.mv (.t 35))⟩,
    ⟨(some 37), (some (36, false)), (.faddr 3 (.t 2))⟩,
    ⟨(some 38), (some (36, false)), (.ld false 1 (.t 37))⟩,
    ⟨(some 39), (some (36, false)), (.faddr 4 (.t 2))⟩,
    ⟨(some 40), (some (36, false)), (.ld false 1 (.t 39))⟩,
    ⟨(some 41), (some (36, false)), (.bin .gtr (.t 38) (.t 40))⟩,
    ⟨(some 42), none, (.pick (.t 36) (.c (.bool true)) (.t 41))⟩,
    ⟨(some 43), none, (.mv (.t 42))⟩,
    ⟨(some 44), (some (43, false)), (.faddr 4 (.t 2))⟩,
    ⟨(some 45), (some (43, false)), (.ld false 1 (.t 44))⟩,
    ⟨(some 46), (some (43, false)), (.faddr 1 (.t 2))⟩,
    ⟨(some 47), (some (43, false)), (.ld false 1 (.t 46))⟩,
    ⟨(some 48), (some (43, false)), (.bin .gtr (.t 45) (.t 47))⟩,
    ⟨(some 49), none, (.pick (.t 43) (.c (.bool true)) (.t 48))⟩] [26, 27, 28, 29, 30, 31, 32, 33, 34, 35, 36, 37, 38, 39, 40, 41, 42, 43, 44, 45, 46, 47, 48])
  (.cond (.t 49)
   (.seq
   (.reg [⟨(some 4), none, (.mv (.c (.bool false)))⟩] [])
   .ret)
   .skip))
  (.seq
  (.seq
  (.reg [⟨(some 50), none, (.faddr 5 (.t 2))⟩,
    ⟨(some 51), none, (.ld false 1 (.t 50))⟩,
    ⟨(some 52), none, (.len (.t 51))⟩,
    ⟨(some 53), none, (.mv (.c (.int .i64 0)))⟩] [50])
  (.block 0
   (.loop
    (.seq
    (.reg [⟨(some 54), none, (.bin .lss (.t 53) (.t 52))⟩] [])
    (.seq
    (.cond (.t 54)
     .skip
     (.exit 0))
    (.seq
    (.block 1
     (.seq
     (.reg [⟨(some 55), none, (.mv (.t 53))⟩,
       ⟨(some 56), none, (.iaddr 1 (.t 51) (.t 53))⟩,
       ⟨(some 57), none, (.ld false 1 (.t 56))⟩,
       ⟨(some 5), none, (.mv (.t 55))⟩,
       ⟨(some 6), none, (.mv (.t 57))⟩] [55, 56, 57])
     (.seq
     (.reg [⟨(some 58), none, (.mv (.t 6))⟩,
       ⟨(some 59), none, (.faddr 0 (.t 2))⟩,
       ⟨(some 60), none, (.ld false 1 (.t 59))⟩,
       ⟨(some 61), none, (.bin .lss (.t 58) (.t 60))⟩,
       ⟨(some 62), none, (.mv (.t 61))⟩,
       ⟨(some 63), (some (62, false)), (.mv (.t 6))⟩,
       ⟨(some 64), (some (62, false)), (.ld true 6 (.t 2))⟩,
       ⟨(some 65), (some (62, false)), (.call 59 [(.t 64)])⟩,
       ⟨(some 66), (some (62, false)), (.bin .geq (.t 63) (.t 65))⟩,
       ⟨(some 67), none, (.pick (.t 62) (.c (.bool true)) (.t 66))⟩,
       ⟨(some 68), none, (.mv (.t 67))⟩,
       ⟨(some 69), (some (68, false)), (.mv (.t 5))⟩,
       ⟨(some 70), (some (68, false)), (.bin .gtr (.t 69) (.c (.int .i64 0)))⟩,
       ⟨(some 71), (some (68, false)), (.mv (.t 70))⟩,
       ⟨(some 72), (some (71, true)), (.faddr 5 (.t 2))⟩,
       ⟨(some 73), (some (71, true)), (.ld false 1 (.t 72))⟩,
       ⟨(some 74), (some (71, true)), (.mv (.t 5))⟩,
       ⟨(some 75), (some (71, true)), (.bin .sub (.t 74) (.c (.int .i64 1)))⟩,
       ⟨(some 76), (some (71, true)), (.iaddr 1 (.t 73) (.t 75))⟩,
       ⟨(some 77), (some (71, true)), (.ld false 1 (.t 76))⟩,
       ⟨(some 78), (some (71, true)), (.mv (.t 6))⟩,
       ⟨(some 79), (some (71, true)), (.bin .geq (.t 77) (.t 78))⟩,
       ⟨(some 80), (some (68, false)), (.pick (.t 71) (.t 79) (.c (.bool false)))⟩,
       ⟨(some 81), none, (.pick (.t 68) (.c (.bool true)) (.t 80))⟩] [58, 59, 60, 61, 62, 63, 64, 65, 66, 67, 68, 69, 70, 71, 72, 73, 74, 75, 76, 77, 78, 79, 80])
     (.cond (.t 81)
      (.seq
      (.reg [⟨(some 4), none, (.mv (.c (.bool false)))⟩] [])
      .ret)
      .skip))))
    (.reg [⟨(some 82), none, (.bin .add (.t 53) (.c (.int .i64 1)))⟩,
      ⟨(some 53), none, (.mv (.t 82))⟩] [82])))))))
  (.seq
  (.reg [⟨(some 4), none, (.mv (.c (.bool true)))⟩] [])
  .ret)))))
theorem rcq62 : resC Go.Proofs.Try.prog Go.Proofs.Try.f62.ntmps ((Go.Proofs.Try.f62.body).getD .skip) = some (strip rc62) := by kernel_rfl
def rv62 : List RV := [(.tmp 4)]
theorem rvq62 : Go.Proofs.Try.f62.results.toList.mapM (resRV Go.Proofs.Try.prog) = some rv62 := by kernel_rfl

/- pagecache/zone.Check -/
def rc22 : RC :=
  (.seq
  (.reg [⟨(some 2), none, (.mv (.c (.bool false)))⟩] [])
  (.seq
  (.reg [⟨(some 3), none, (.mv (.c (.int .i64 1)))⟩] [])
  (.seq
  (.seq
  (.reg [⟨(some 6), none, (.mv (.t 0))⟩,
    ⟨(some 7), none, (.len (.t 6))⟩,
    ⟨(some 8), none, (.mv (.c (.int .i64 0)))⟩] [])
  (.block 0
   (.loop
    (.seq
    (.reg [⟨(some 9), none, (.bin .lss (.t 8) (.t 7))⟩] [])
    (.seq
    (.cond (.t 9)
     .skip
     (.exit 0))
    (.seq
    (.block 1
     (.seq
     (.reg [⟨(some 10), none, (.iaddr 6 (.t 6) (.t 8))⟩,
       ⟨(some 11), none, (.ld true 6 (.t 10))⟩,
       ⟨(some 5), none, (.alloc [(.int .i64 0), (.int .i64 0), (.int .i64 0), (.int .i64 0), (.int .i64 0), (.lst 0 true [])])⟩,
       ⟨none, none, (.st 6 (.t 5) (.t 11))⟩] [10, 11])
     (.seq
     (.seq
     (.reg [⟨(some 12), none, (.ld true 6 (.t 5))⟩,
       ⟨(some 13), none, (.mv (.t 3))⟩,
       ⟨(some 14), none, (.call 62 [(.t 12), (.t 13)])⟩,
       ⟨(some 15), none, (.un .not (.t 14))⟩] [12, 13, 14])
     (.cond (.t 15)
      (.seq
      (.reg [⟨(some 2), none, (.mv (.c (.bool false)))⟩] [])
      .ret)
      .skip))
     (.reg [⟨(some 16), none, (.ld true 6 (.t 5))⟩,
       ⟨(some 17), none, (.call 59 [(.t 16)])⟩,
       ⟨(some 3), none, (.mv (.t 17))⟩] [16, 17]))))
    (.reg [⟨(some 18), none, (.bin .add (.t 8) (.c (.int .i64 1)))⟩,
      ⟨(some 8), none, (.mv (.t 18))⟩] [18])))))))
  (.seq
  (.reg [⟨(some 19), none, (.mv (.t 0))⟩,
    ⟨(some 20), none, (.len (.t 19))⟩,
    ⟨(some 21), none, (.bin .gtr (.t 20) (.c (.int .i64 0)))⟩,
    ⟨(some 2), none, (.mv (.t 21))⟩] [19, 20, 21])
  .ret))))
theorem rcq22 : resC Go.Proofs.Try.prog Go.Proofs.Try.f22.ntmps ((Go.Proofs.Try.f22.body).getD .skip) = some (strip rc22) := by kernel_rfl
def rv22 : List RV := [(.tmp 2)]
theorem rvq22 : Go.Proofs.Try.f22.results.toList.mapM (resRV Go.Proofs.Try.prog) = some rv22 := by kernel_rfl

/- pagecache/pagecacheref10.Check -/
def rc23 : RC :=
  (.seq
  (.reg [⟨(some 2), none, (.mv (.c (.bool false)))⟩] [])
  (.seq
  (.reg [⟨(some 3), none, (.mv (.c (.int .i64 1)))⟩] [])
  (.seq
  (.seq
  (.reg [⟨(some 4), none, (.mv (.c (.int .i64 0)))⟩] [])
  (.block 0
   (.loop
    (.seq
    (.seq
    (.reg [⟨(some 7), none, (.mv (.t 4))⟩,
      ⟨(some 8), none, (.mv (.t 0))⟩,
      ⟨(some 9), none, (.len (.t 8))⟩,
      ⟨(some 10), none, (.bin .lss (.t 7) (.t 9))⟩] [7, 8, 9])
    (.cond (.t 10)
     .skip
     (.exit 0)))
    (.seq
    (.block 1
     (.seq
     (.reg [⟨(some 13), none, (.mv (.t 0))⟩,
       ⟨(some 14), none, (.mv (.t 4))⟩,
       ⟨(some 15), none, (.iaddr 6 (.t 13) (.t 14))⟩,
       ⟨(some 16), none, (.ld true 6 (.t 15))⟩,
       ⟨(some 5), none, (.alloc [(.int .i64 0), (.int .i64 0), (.int .i64 0), (.int .i64 0), (.int .i64 0), (.lst 0 true [])])⟩,
       ⟨none, none, (.st 6 (.t 5) (.t 16))⟩] [13, 14, 15, 16])
     (.seq
     (.seq
     (.reg [⟨(some 17), none, (.faddr 0 (.t 5))⟩,
       ⟨(some 18), none, (.ld false 1 (.t 17))⟩,
       ⟨(some 19), none, (.mv (.t 3))⟩,
       ⟨(some 20), none, (.bin .neq (.t 18) (.t 19))⟩,
       ⟨(some 21), none, (.mv (.t 20))⟩,
       ⟨(some 22), (some (21, false)), (.faddr 1 (.t 5))⟩,
       ⟨(some 23), (some (21, false)), (.ld false 1 (.t 22))⟩,
       ⟨(some 24), (some (21, false)), (.bin .lss (.t 23) (.c (.int .i64 1)))⟩,
       ⟨(some 25), none, (.pick (.t 21) (.c (.bool true)) (.t 24))⟩,
       ⟨(some 26), none, (.mv (.t 25))⟩,
       ⟨(some 27), (some (26, false)), (.faddr 1 (.t 5))⟩,
       ⟨(some 28), (some (26, false)), (.ld false 1 (.t 27))⟩,
       ⟨(some 29), (some (26, false)), (.mv (.t 3))⟩,
       ⟨(some 30), (some (26, false)), (.bin .sub (.c (.int .i64 65)) (.t 29))⟩,
       ⟨(some 31), (some (26, false)), (.bin .gtr (.t 28) (.t 30))⟩,
       ⟨(some 32), none, (.pick (.t 26) (.c (.bool true)) (.t 31))⟩,
       ⟨(some 33), none, (.mv (.t 32))⟩,
       ⟨(some 34), (some (33, false)), (.faddr 2 (.t 5))⟩,
       ⟨(some 35), (some (33, false)), (.ld false 1 (.t 34))⟩,
       ⟨(some 36), (some (33, false)), (.bin .lss (.t 35) (.c (.int .i64 0)))⟩,
       ⟨(some 37), none, (.pick (.t 33) (.c (.bool true)) (.t 36))⟩,
       ⟨(some 38), none, (.mv (.t 37))⟩,
       ⟨(some 39), (some (38, false)), (.faddr 2 (.t 5))⟩,
       ⟨(some 40), (some (38, false)), (.ld false 1 (.t 39))⟩,
       ⟨(some 41), (some (38, false)), (.faddr 3 (.t 5))⟩,
       ⟨(some 42), (some (38, false)), (.ld false 1 (.t 41))⟩,
       ⟨(some 43), (some (38, false)), (.bin .gtr (.t 40) (.t 42))⟩,
       ⟨(some 44), none, (.pick (.t 38) (.c (.bool true)) (.t 43))⟩,
       ⟨(some 45), none, (.mv (.t 44))⟩,
       ⟨(some 46), (some (45, false)), (.faddr 3 (.t 5))⟩,
       ⟨(some 47), (some (45, false)), (.ld false 1 (.t 46))⟩,
       ⟨(some 48), (some (45, false)), (.faddr 4 (.t 5))⟩,
       ⟨(some 49), (some (45, false)), (.ld false 1 (.t 48))⟩,
       ⟨(some 50), (some (45, false)), (.bin .gtr (.t 47) (.t 49))⟩,
       ⟨(some 51), none, (.pick (.t 45) (.c (.bool true)) (.t 50))⟩,
       ⟨(some 52), none, (.mv (.t 51))⟩,
       ⟨(some 53), (some (52, false)), (.faddr 4 (.t 5))⟩,
       ⟨(some 54), (some (52, false)), (.ld false 1 (.t 53))⟩,
       ⟨(some 55), (some (52, false)), (.faddr 1 (.t 5))⟩,
       ⟨(some 56), (some (52, false)), (.ld false 1 (.t 55))⟩,
       ⟨(some 57), (some (52, false)), (.bin .gtr (.t 54) (.t 56))⟩,
       ⟨(some 58), none, (.pick (.t 52) (.c (.bool true)) (.t 57))⟩] [17, 18, 19, 20, 21, 22, 23, 24, 25, 26, 27, 28, 29, 30, 31, 32, 33, 34, 35, 36, 37, 38, 39, 40, 41, 42, 43, 44, 45, 46, 47, 48, 49, 50, 51, 52, 53, 54, 55, 56, 57])
     (.cond (.t 58)
      (.seq
      (.reg [⟨(some 2), none, (.mv (.c (.bool false)))⟩] [])
      .ret)
      .skip))
     (.seq
     (.seq
     (.reg [⟨(some 6), none, (.mv (.c (.int .i64 0)))⟩] [])
     (.block 2
      (.loop
       (.seq
       (.seq
       (.reg [⟨(some 59), none, (.mv (.t 6))⟩,
         ⟨(some 60), none, (.faddr 5 (.t 5))⟩,
         ⟨(some 61), none, (.ld false 1 (.t 60))⟩,
         ⟨(some 62), none, (.len (.t 61))⟩,
         ⟨(some 63), none, (.bin .lss (.t 59) (.t 62))⟩] [59, 60, 61, 62])
       (.cond (.t 63)
        .skip
        (.exit 2)))
       (.seq
       (.block 3
        (.seq
        (.dreg 12288 12912 [⟨(some 66), none, (.faddr 5 (.t 5))⟩,
          ⟨(some 67), none, (.ld false 1 (.t 66))⟩,
          ⟨(some 68), none, (.mv (.t 6))⟩,
          ⟨(some 69), none, (.iaddr 1 (.t 67) (.t 68))⟩,
          ⟨(some 70), none, (.ld false 1 (.t 69))⟩,
          ⟨(some 71), none, (.faddr 0 (.t 5))⟩,
          ⟨(some 72), none, (.ld false 1 (.t 71))⟩,
          ⟨(some 73), none, (.bin .lss (.t 70) (.t 72))⟩,
          ⟨(some 74), none, (.mv (.t 73))⟩,
          ⟨(some 75), (some (74, false)), (.faddr 5 (.t 5))⟩,
          ⟨(some 76), (some (74, false)), (.ld false 1 (.t 75))⟩,
          ⟨(some 77), (some (74, false)), (.mv (.t 6))⟩,
          ⟨(some 78), (some (74, false)), (.iaddr 1 (.t 76) (.t 77))⟩,
          ⟨(some 79), (some (74, false)), (.ld false 1 (.t 78))⟩,
          ⟨(some 80), (some (74, false)), (.faddr 0 (.t 5))⟩,
          ⟨(some 81), (some (74, false)), (.ld false 1 (.t 80))⟩,
          ⟨(some 82), (some (74, false)), (.faddr 1 (.t 5))⟩,
          ⟨(some 83), (some (74, false)), (.ld false 1 (.t 82))⟩,
          ⟨(some 84), (some (74, false)), (.bin .add (.t 81) (.t 83))⟩,
          ⟨(some 85), (some (74, false)), (.bin .geq (.t 79) (.t 84))⟩,
          ⟨(some 86), none, (.pick (.t 74) (.c (.bool true)) (.t 85))⟩,
          ⟨(some 87), none, (.mv (.t 86))⟩,
          ⟨(some 88), (some (87, false)), (.mv (.t 6))⟩,
          ⟨(some 89), (some (87, false)), (.bin .gtr (.t 88) (.c (.int .i64 0)))⟩,
          ⟨(some 90), (some (87, false)), (.mv (.t 89))⟩,
          ⟨(some 91), (some (90, true)), (.faddr 5 (.t 5))⟩,
          ⟨(some 92), (some (90, true)), (.ld false 1 (.t 91))⟩,
          ⟨(some 93), (some (90, true)), (.mv (.t 6))⟩,
          ⟨(some 94), (some (90, true)), (.iaddr 1 (.t 92) (.t 93))⟩,
          ⟨(some 95), (some (90, true)), (.ld false 1 (.t 94))⟩,
          ⟨(some 96), (some (90, true)), (.faddr 5 (.t 5))⟩,
          ⟨(some 97), (some (90, true)), (.ld false 1 (.t 96))⟩,
          ⟨(some 98), (some (90, true)), (.mv (.t 6))⟩,
          ⟨(some 99), (some (90, true)), (.bin .sub (.t 98) (.c (.int .i64 1)))⟩,
          ⟨(some 100), (some (90, true)), (.iaddr 1 (.t 97) (.t 99))⟩,
          ⟨(some 101), (some (90, true)), (.ld false 1 (.t 100))⟩,
          ⟨(some 102), (some (90, true)), (.bin .leq (.t 95) (.t 101))⟩,
          ⟨(some 103), (some (87, false)), (.pick (.t 90) (.t 102) (.c (.bool false)))⟩,
          ⟨(some 104), none, (.pick (.t 87) (.c (.bool true)) (.t 103))⟩] [66, 67, 68, 69, 70, 71, 72, 73, 74, 75, 76, 77, 78, 79, 80, 81, 82, 83, 84, 85, 86, 87, 88, 89, 90, 91, 92, 93, 94, 95, 96, 97, 98, 99, 100, 101, 102, 103] [[], [0], [], [1, 0, 2], [3, 2, 0, 1], [], [5], [4, 1, 0, 2, 3, 6, 5], [7, 5, 6, 3, 2, 0, 1, 4], [8, 4, 1, 0, 2, 3, 6, 5, 7], [9, 8, 4, 1, 0, 2, 3, 6, 5, 7], [8, 4, 1, 0, 2, 3, 6, 5, 7], [10, 9, 11, 8, 4, 1, 0, 2, 3, 6, 5, 7], [12, 11, 9, 10, 8, 4, 1, 0, 2, 3, 6, 5, 7], [8, 4, 1, 0, 2, 3, 6, 5, 7], [14, 8, 4, 1, 0, 2, 3, 6, 5, 7], [8, 4, 1, 0, 2, 3, 6, 5, 7], [16, 8, 4, 1, 0, 2, 3, 6, 5, 7], [15, 14, 17, 16, 8, 4, 1, 0, 2, 3, 6, 5, 7], [13, 10, 9, 11, 12, 18, 16, 17, 14, 15, 8, 4, 1, 0, 2, 3, 6, 5, 7], [19, 7, 5, 6, 3, 2, 0, 1, 4, 8, 15, 14, 17, 16, 18, 12, 11, 9, 10, 13], [20, 13, 10, 9, 11, 12, 18, 16, 17, 14, 15, 19, 8, 4, 1, 0, 2, 3, 6, 5, 7], [21, 7, 5, 6, 3, 2, 0, 1, 4, 8, 19, 15, 14, 17, 16, 18, 12, 11, 9, 10, 13, 20], [22, 21, 7, 5, 6, 3, 2, 0, 1, 4, 8, 19, 15, 14, 17, 16, 18, 12, 11, 9, 10, 13, 20], [23, 22, 21, 7, 5, 6, 3, 2, 0, 1, 4, 8, 19, 15, 14, 17, 16, 18, 12, 11, 9, 10, 13, 20], [24, 20, 13, 10, 9, 11, 12, 18, 16, 17, 14, 15, 19, 8, 4, 1, 0, 2, 3, 6, 5, 7, 21, 22, 23], [25, 24, 20, 13, 10, 9, 11, 12, 18, 16, 17, 14, 15, 19, 8, 4, 1, 0, 2, 3, 6, 5, 7, 21, 22, 23], [24, 20, 13, 10, 9, 11, 12, 18, 16, 17, 14, 15, 19, 8, 4, 1, 0, 2, 3, 6, 5, 7, 21, 22, 23], [26, 25, 27, 24, 20, 13, 10, 9, 11, 12, 18, 16, 17, 14, 15, 19, 8, 4, 1, 0, 2, 3, 6, 5, 7, 21, 22, 23], [28, 27, 25, 26, 24, 20, 13, 10, 9, 11, 12, 18, 16, 17, 14, 15, 19, 8, 4, 1, 0, 2, 3, 6, 5, 7, 21, 22, 23], [24, 20, 13, 10, 9, 11, 12, 18, 16, 17, 14, 15, 19, 8, 4, 1, 0, 2, 3, 6, 5, 7, 21, 22, 23], [30, 24, 20, 13, 10, 9, 11, 12, 18, 16, 17, 14, 15, 19, 8, 4, 1, 0, 2, 3, 6, 5, 7, 21, 22, 23], [24, 20, 13, 10, 9, 11, 12, 18, 16, 17, 14, 15, 19, 8, 4, 1, 0, 2, 3, 6, 5, 7, 21, 22, 23], [32, 24, 20, 13, 10, 9, 11, 12, 18, 16, 17, 14, 15, 19, 8, 4, 1, 0, 2, 3, 6, 5, 7, 21, 22, 23], [31, 30, 33, 32, 24, 20, 13, 10, 9, 11, 12, 18, 16, 17, 14, 15, 19, 8, 4, 1, 0, 2, 3, 6, 5, 7, 21, 22, 23], [34, 32, 33, 30, 31, 24, 20, 13, 10, 9, 11, 12, 18, 16, 17, 14, 15, 19, 8, 4, 1, 0, 2, 3, 6, 5, 7, 21, 22, 23], [29, 26, 25, 27, 28, 35, 31, 30, 33, 32, 34, 24, 20, 13, 10, 9, 11, 12, 18, 16, 17, 14, 15, 19, 8, 4, 1, 0, 2, 3, 6, 5, 7, 21, 22, 23], [36, 23, 22, 24, 34, 32, 33, 30, 31, 35, 28, 27, 25, 26, 29, 21, 7, 5, 6, 3, 2, 0, 1, 4, 8, 19, 15, 14, 17, 16, 18, 12, 11, 9, 10, 13, 20], [37, 20, 13, 10, 9, 11, 12, 18, 16, 17, 14, 15, 19, 8, 4, 1, 0, 2, 3, 6, 5, 7, 21, 29, 26, 25, 27, 28, 35, 31, 30, 33, 32, 34, 24, 22, 23, 36]] [12288, 12304, 12320, 12336, 12352, 12368, 12384, 12400, 12416, 12432, 12448, 12464, 12480, 12496, 12512, 12528, 12544, 12560, 12576, 12592, 12608, 12624, 12640, 12656, 12672, 12688, 12704, 12720, 12736, 12752, 12768, 12784, 12800, 12816, 12832, 12848, 12864, 12880, 12896])
        (.cond (.t 104)
         (.seq
         (.reg [⟨(some 2), none, (.mv (.c (.bool false)))⟩] [])
         .ret)
         .skip)))
       (.reg [⟨(some 64), none, (.mv (.t 6))⟩,
         ⟨(some 65), none, (.bin .add (.t 64) (.c (.int .i64 1)))⟩,
         ⟨(some 6), none, (.mv (.t 65))⟩] [64, 65]))))))
     (.reg [⟨(some 105), none, (.mv (.t 3))⟩,
       ⟨(some 106), none, (.faddr 1 (.t 5))⟩,
       ⟨(some 107), none, (.ld false 1 (.t 106))⟩,
       ⟨(some 108), none, (.bin .add (.t 105) (.t 107))⟩,
       ⟨(some 3), none, (.mv (.t 108))⟩] [105, 106, 107, 108])))))
    (.reg [⟨(some 11), none, (.mv (.t 4))⟩,
      ⟨(some 12), none, (.bin .add (.t 11) (.c (.int .i64 1)))⟩,
      ⟨(some 4), none, (.mv (.t 12))⟩] [11, 12]))))))
  (.seq
  (.reg [⟨(some 109), none, (.mv (.t 0))⟩,
    ⟨(some 110), none, (.len (.t 109))⟩,
    ⟨(some 111), none, (.bin .gtr (.t 110) (.c (.int .i64 0)))⟩,
    ⟨(some 2), none, (.mv (.t 111))⟩] [109, 110, 111])
  .ret))))
theorem rcq23 : resC Go.Proofs.Try.prog Go.Proofs.Try.f23.ntmps ((Go.Proofs.Try.f23.body).getD .skip) = some (strip rc23) := by kernel_rfl
def rv23 : List RV := [(.tmp 2)]
theorem rvq23 : Go.Proofs.Try.f23.results.toList.mapM (resRV Go.Proofs.Try.prog) = some rv23 := by kernel_rfl

def endZ (z : Zn) : Int := IntKind.i64.wrap (z.first + z.size)
theorem ok59 (z : Zn) : FnC Try.prog 59 [] [.agg z.c] (.int .i64 (endZ z)) [] := by
  refine fn_okC (ob0 := []) (rc := rc59) (rvs := rv59) Try.func59 rfl rcq59 rvq59 (show 1 ≤ _ by decide) ?_
  repeat ((conv => whnf); first | refine Cd.seq ?_ | refine Cd.cut ?_ | refine Cd.reg ?_ | refine Cd.block ?_ | refine Cd.cond ?_ | refine Cd.dreg ?_ | refine Cd.skip ?_ | refine Cd.ret ?_ | refine Cd.exit ?_ | refine Cd.loop ?_ | refine ⟨rfl, ?_⟩ | refine ⟨Nat.le_of_ble_eq_true rfl, ?_⟩ | refine ⟨.inl rfl, ?_⟩ | refine ⟨fun h => Bool.noConfusion h, ?_⟩)
  conv => whnf
  refine ⟨[], ?_, rfl, trivial, rfl, ?_⟩
  · exact trivial
  try subst hk
  repeat' (first | exact trivial | rfl | exact .inl rfl | exact .inr rfl | exact id | exact (fun h => Bool.noConfusion h) | refine And.intro ?_ ?_)
def headBad (z : Zn) (f : Int) : Bool := ((z.first != f || decide (z.size < 1)) || decide (64 < z.size)) || decide (65 < endZ z)
def markBad (z : Zn) : Bool := ((decide (z.min < 0) || decide (z.low < z.min)) || decide (z.high < z.low)) || decide (z.size < z.high)
def freeBad (lo hi : Int) (l : List Int) (i : Nat) : Bool := (decide (l.getD i 0 < lo) || decide (hi ≤ l.getD i 0)) || (decide (0 < (i : Int)) && decide (l.getD i 0 ≤ l.getD (i - 1) 0))
def ascN (lo hi : Int) (l : List Int) : Nat → Bool
  | 0 => true
  | i + 1 => ascN lo hi l i && !freeBad lo hi l i
theorem ascN_mono (lo hi : Int) (l : List Int) : ∀ (n i : Nat), i < n → ascN lo hi l n = true → freeBad lo hi l i = false
  | 0, _, h, _ => by omega
  | n + 1, i, h, h1 => by
    simp only [ascN, Bool.and_eq_true, Bool.not_eq_true'] at h1
    by_cases e : i = n
    · subst e; exact h1.2
    · exact ascN_mono lo hi l n i (by omega) h1.1
theorem ascN_bad (lo hi : Int) (l : List Int) (n i : Nat) (h : i < n) (hb : freeBad lo hi l i = true) : ascN lo hi l n = false := by
  cases ha : ascN lo hi l n with
  | false => rfl
  | true => rw [ascN_mono lo hi l n i h ha] at hb; cases hb
def rightZ (z : Zn) (f : Int) : Bool := bif headBad z f then false else bif markBad z then false else ascN z.first (endZ z) z.free z.free.length
theorem getI (l : List Int) (i : Nat) (h : i < l.length) : l[i] = l.getD i 0 := by simp [List.getD_eq_getElem?_getD, h]
theorem prev_nat (i : Nat) (hi : (i : Int) < 2 ^ 62) : (IntKind.i64.wrap ((i : Int) - 1)).toNat = i - 1 := by rw [wrapI (by omega) (by omega)]; omega
theorem prev_int (i : Nat) (hi : (i : Int) < 2 ^ 62) : IntKind.i64.wrap ((i : Int) - 1) = (i : Int) - 1 := wrapI (by omega) (by omega)
set_option maxRecDepth 20000 in
theorem ok62 (z : Zn) (f : Int) (hl : (z.free.length : Int) < 2 ^ 62) : FnC Try.prog 62 [] [.agg z.c, .int .i64 f] (.bool (rightZ z f)) [] := by
  refine fn_okC (ob0 := []) (rc := rc62) (rvs := rv62) Try.func62 rfl rcq62 rvq62 (show 2 ≤ _ by decide) ?_
  generalize hk : rightZ z f = q
  repeat ((conv => whnf); first | refine Cd.seq ?_ | refine Cd.cut ?_ | refine Cd.reg ?_ | refine Cd.block ?_ | refine Cd.cond ?_ | refine Cd.dreg ?_ | refine Cd.skip ?_ | refine Cd.ret ?_ | refine Cd.exit ?_ | refine Cd.loop ?_ | refine ⟨rfl, ?_⟩ | refine ⟨Nat.le_of_ble_eq_true rfl, ?_⟩ | refine ⟨.inl rfl, ?_⟩ | refine ⟨fun h => Bool.noConfusion h, ?_⟩ | refine .inl ⟨_, fun _ => ⟨purA rfl, (by first | exact ok59 z)⟩, .inl rfl, ?_⟩)
  conv => whnf
  refine ⟨fun h1 => ?_, fun h1 => ?_⟩ <;> try simp only [Bool.cond_true_left, Bool.cond_false_right, Bool.not_eq_true', Bool.not_eq_false', Bool.not_not] at h1
  · have h1 : headBad z f = true := h1
    simp only [rightZ, h1, cond_true] at hk
    subst hk
    repeat ((conv => whnf); first | refine Cd.seq ?_ | refine Cd.cut ?_ | refine Cd.reg ?_ | refine Cd.block ?_ | refine Cd.cond ?_ | refine Cd.dreg ?_ | refine Cd.skip ?_ | refine Cd.ret ?_ | refine Cd.exit ?_ | refine Cd.loop ?_ | refine ⟨rfl, ?_⟩ | refine ⟨Nat.le_of_ble_eq_true rfl, ?_⟩ | refine ⟨.inl rfl, ?_⟩ | refine ⟨fun h => Bool.noConfusion h, ?_⟩)
    conv => whnf
    refine ⟨[], ?_, rfl, trivial, rfl, ?_⟩
    · exact trivial
    try subst hk
    repeat' (first | exact trivial | rfl | exact .inl rfl | exact .inr rfl | exact id | exact (fun h => Bool.noConfusion h) | refine And.intro ?_ ?_)
  have h1 : headBad z f = false := h1
  simp only [rightZ, h1, cond_false] at hk
  repeat ((conv => whnf); first | refine Cd.seq ?_ | refine Cd.cut ?_ | refine Cd.reg ?_ | refine Cd.block ?_ | refine Cd.cond ?_ | refine Cd.dreg ?_ | refine Cd.skip ?_ | refine Cd.ret ?_ | refine Cd.exit ?_ | refine Cd.loop ?_ | refine ⟨rfl, ?_⟩ | refine ⟨Nat.le_of_ble_eq_true rfl, ?_⟩ | refine ⟨.inl rfl, ?_⟩ | refine ⟨fun h => Bool.noConfusion h, ?_⟩)
  conv => whnf
  refine ⟨fun h2 => ?_, fun h2 => ?_⟩ <;> try simp only [Bool.cond_true_left, Bool.cond_false_right, Bool.not_eq_true', Bool.not_eq_false', Bool.not_not] at h2
  · have h2 : markBad z = true := h2
    simp only [h2, cond_true] at hk
    subst hk
    repeat ((conv => whnf); first | refine Cd.seq ?_ | refine Cd.cut ?_ | refine Cd.reg ?_ | refine Cd.block ?_ | refine Cd.cond ?_ | refine Cd.dreg ?_ | refine Cd.skip ?_ | refine Cd.ret ?_ | refine Cd.exit ?_ | refine Cd.loop ?_ | refine ⟨rfl, ?_⟩ | refine ⟨Nat.le_of_ble_eq_true rfl, ?_⟩ | refine ⟨.inl rfl, ?_⟩ | refine ⟨fun h => Bool.noConfusion h, ?_⟩)
    conv => whnf
    refine ⟨[], ?_, rfl, trivial, rfl, ?_⟩
    · exact trivial
    try subst hk
    repeat' (first | exact trivial | rfl | exact .inl rfl | exact .inr rfl | exact id | exact (fun h => Bool.noConfusion h) | refine And.intro ?_ ?_)
  have h2 : markBad z = false := h2
  simp only [h2, cond_false] at hk
  repeat ((conv => whnf); first | refine Cd.seq ?_ | refine Cd.cut ?_ | refine Cd.reg ?_ | refine Cd.block ?_ | refine Cd.cond ?_ | refine Cd.dreg ?_ | refine Cd.skip ?_ | refine Cd.ret ?_ | refine Cd.exit ?_ | refine Cd.loop ?_ | refine ⟨rfl, ?_⟩ | refine ⟨Nat.le_of_ble_eq_true rfl, ?_⟩ | refine ⟨.inl rfl, ?_⟩ | refine ⟨fun h => Bool.noConfusion h, ?_⟩)
  conv => whnf
  rw [rowsI_len]
  refine ⟨Nat, fun i => i ≤ z.free.length ∧ ascN z.first (endZ z) z.free i = true, fun i => ⟨[(1, ⟨[], true, .int .i64 f⟩), (2, ⟨[], true, .ptr 0 0 0⟩), (4, ⟨[], true, .bool false⟩), (51, ⟨[], true, .lst 1 z.ex (rowsI z.free)⟩), (52, ⟨[], true, .int .i64 (z.free.length : Int)⟩), (53, ⟨[], true, .int .i64 (i : Int)⟩)], [(0, .box z.c)], 1⟩, fun i => z.free.length - i, ⟨0, ⟨by omega, rfl⟩, ?_⟩, fun i hI => ?_⟩
  · refine viewI [some 0] rfl rfl ?_ rfl ?_ rfl ?_
    repeat' (first | exact trivial | rfl | exact .inl rfl | exact .inr rfl | exact id | exact (fun h => Bool.noConfusion h) | refine And.intro ?_ ?_)
  obtain ⟨hI1, hI2⟩ := hI
  repeat ((conv => whnf); first | refine Cd.seq ?_ | refine Cd.cut ?_ | refine Cd.reg ?_ | refine Cd.block ?_ | refine Cd.cond ?_ | refine Cd.dreg ?_ | refine Cd.skip ?_ | refine Cd.ret ?_ | refine Cd.exit ?_ | refine Cd.loop ?_ | refine ⟨rfl, ?_⟩ | refine ⟨Nat.le_of_ble_eq_true rfl, ?_⟩ | refine ⟨.inl rfl, ?_⟩ | refine ⟨fun h => Bool.noConfusion h, ?_⟩)
  conv => whnf
  refine ⟨fun h3 => ?_, fun h3 => ?_⟩ <;> try simp only [Bool.cond_true_left, Bool.cond_false_right, Bool.not_eq_true', Bool.not_eq_false', Bool.not_not] at h3
  · have h3 : i < z.free.length := by simp at h3; omega
    repeat ((conv => whnf); first | refine Cd.seq ?_ | refine Cd.cut ?_ | refine Cd.reg ?_ | refine Cd.block ?_ | refine Cd.cond ?_ | refine Cd.dreg ?_ | refine Cd.skip ?_ | refine Cd.ret ?_ | refine Cd.exit ?_ | refine Cd.loop ?_ | refine ⟨rfl, ?_⟩ | refine ⟨Nat.le_of_ble_eq_true rfl, ?_⟩ | refine ⟨.inl rfl, ?_⟩ | refine ⟨fun h => Bool.noConfusion h, ?_⟩)
    conv => whnf
    refine ⟨fun _ => ⟨rfl, by omega, by rw [rowsI_len]; omega⟩, ?_⟩
    rw [Int.toNat_natCast, rowsI_get z.free i h3]
    repeat ((conv => whnf); first | refine Cd.seq ?_ | refine Cd.cut ?_ | refine Cd.reg ?_ | refine Cd.block ?_ | refine Cd.cond ?_ | refine Cd.dreg ?_ | refine Cd.skip ?_ | refine Cd.ret ?_ | refine Cd.exit ?_ | refine Cd.loop ?_ | refine ⟨rfl, ?_⟩ | refine ⟨Nat.le_of_ble_eq_true rfl, ?_⟩ | refine ⟨.inl rfl, ?_⟩ | refine ⟨fun h => Bool.noConfusion h, ?_⟩ | refine .inl ⟨_, fun _ => ⟨purA rfl, (by first | exact ok59 z)⟩, .inl rfl, ?_⟩)
    conv => whnf
    rw [prev_nat i (by omega)]
    refine ⟨fun hg => ⟨rfl, ?_, ?_⟩, ?_⟩
    · simp only [Bool.and_eq_true, decide_eq_true_eq] at hg
      rw [prev_int i (by omega)]; omega
    · rw [prev_int i (by omega), rowsI_len]; omega
    rw [rowsI_get z.free (i - 1) (by omega)]
    repeat ((conv => whnf); first | refine Cd.seq ?_ | refine Cd.cut ?_ | refine Cd.reg ?_ | refine Cd.block ?_ | refine Cd.cond ?_ | refine Cd.dreg ?_ | refine Cd.skip ?_ | refine Cd.ret ?_ | refine Cd.exit ?_ | refine Cd.loop ?_ | refine ⟨rfl, ?_⟩ | refine ⟨Nat.le_of_ble_eq_true rfl, ?_⟩ | refine ⟨.inl rfl, ?_⟩ | refine ⟨fun h => Bool.noConfusion h, ?_⟩)
    conv => whnf
    rw [getI, getI]
    refine ⟨fun h4 => ?_, fun h4 => ?_⟩ <;> try simp only [Bool.cond_true_left, Bool.cond_false_right, Bool.not_eq_true', Bool.not_eq_false', Bool.not_not] at h4
    · have h4 : freeBad z.first (endZ z) z.free i = true := h4
      rw [ascN_bad _ _ _ _ i h3 h4] at hk
      subst hk
      repeat ((conv => whnf); first | refine Cd.seq ?_ | refine Cd.cut ?_ | refine Cd.reg ?_ | refine Cd.block ?_ | refine Cd.cond ?_ | refine Cd.dreg ?_ | refine Cd.skip ?_ | refine Cd.ret ?_ | refine Cd.exit ?_ | refine Cd.loop ?_ | refine ⟨rfl, ?_⟩ | refine ⟨Nat.le_of_ble_eq_true rfl, ?_⟩ | refine ⟨.inl rfl, ?_⟩ | refine ⟨fun h => Bool.noConfusion h, ?_⟩)
      conv => whnf
      refine ⟨[], ?_, rfl, trivial, rfl, ?_⟩
      · exact trivial
      try subst hk
      repeat' (first | exact trivial | rfl | exact .inl rfl | exact .inr rfl | exact id | exact (fun h => Bool.noConfusion h) | refine And.intro ?_ ?_)
    have h4 : freeBad z.first (endZ z) z.free i = false := h4
    repeat ((conv => whnf); first | refine Cd.seq ?_ | refine Cd.cut ?_ | refine Cd.reg ?_ | refine Cd.block ?_ | refine Cd.cond ?_ | refine Cd.dreg ?_ | refine Cd.skip ?_ | refine Cd.ret ?_ | refine Cd.exit ?_ | refine Cd.loop ?_ | refine ⟨rfl, ?_⟩ | refine ⟨Nat.le_of_ble_eq_true rfl, ?_⟩ | refine ⟨.inl rfl, ?_⟩ | refine ⟨fun h => Bool.noConfusion h, ?_⟩)
    conv => whnf
    rw [wrapI (n := (i : Int) + 1) (by omega) (by omega), show ((i : Int) + 1) = ((i + 1 : Nat) : Int) by omega]
    refine ⟨i + 1, ⟨by omega, by simp only [ascN, hI2, h4]; rfl⟩, ?_, by show z.free.length - (i + 1) < z.free.length - i; omega⟩
    refine viewI [some 0] rfl rfl ?_ rfl ?_ rfl ?_
    repeat' (first | exact trivial | rfl | exact .inl rfl | exact .inr rfl | exact id | exact (fun h => Bool.noConfusion h) | refine And.intro ?_ ?_)
  have h3 : i = z.free.length := by simp at h3; omega
  rw [← h3, hI2] at hk
  subst hk
  repeat ((conv => whnf); first | refine Cd.seq ?_ | refine Cd.cut ?_ | refine Cd.reg ?_ | refine Cd.block ?_ | refine Cd.cond ?_ | refine Cd.dreg ?_ | refine Cd.skip ?_ | refine Cd.ret ?_ | refine Cd.exit ?_ | refine Cd.loop ?_ | refine ⟨rfl, ?_⟩ | refine ⟨Nat.le_of_ble_eq_true rfl, ?_⟩ | refine ⟨.inl rfl, ?_⟩ | refine ⟨fun h => Bool.noConfusion h, ?_⟩)
  conv => whnf
  refine ⟨[], ?_, rfl, trivial, rfl, ?_⟩
  · exact trivial
  try subst hk
  repeat' (first | exact trivial | rfl | exact .inl rfl | exact .inr rfl | exact id | exact (fun h => Bool.noConfusion h) | refine And.intro ?_ ?_)
end Go.Proofs.Ytcifhjkodbaghaa
