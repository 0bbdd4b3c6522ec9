/- Readahead: forward, Plan. -/
import Derived.Test.YteelckbeekgfiaaDoorR3
import Derived.Test.YteelckbeekgfiaaDoorW11b
set_option linter.unusedSimpArgs false
set_option linter.unusedVariables false
namespace Go.Proofs.YteelckbeekgfiaaDoor
open Go Go.Sk Go.RowKit

/- (pagecache/readahead.span).forward -/
def rc27 : RC :=
  (.seq
  (.reg [⟨(some 2), none, (.box (.t 0))⟩,
    ⟨(some 3), none, (.box (.t 1))⟩,
    ⟨(some 4), none, (.alloc [(.int .i64 0), (.int .i64 0), (.int .i64 0)])⟩,
    ⟨(some 5), none, (.mv (.c (.lst 0 true [])))⟩] [])
  (.seq
  (.reg [⟨(some 9), none, (.faddr 0 (.t 3))⟩,
    ⟨(some 10), none, (.ld false 1 (.t 9))⟩,
    ⟨(some 11), none, (.faddr 1 (.t 3))⟩,
    ⟨(some 12), none, (.ld false 1 (.t 11))⟩,
    ⟨(some 13), none, (.bin .add (.t 10) (.t 12))⟩,
    ⟨(some 6), none, (.mv (.t 13))⟩] [9, 10, 11, 12, 13])
  (.seq
  (.reg [⟨(some 15), none, (.ld true 3 (.t 3))⟩,
    ⟨(some 16), none, (.call 11 [(.t 15)])⟩,
    ⟨(some 14), none, (.mv (.t 16))⟩,
    ⟨(some 17), none, (.extr 0 (.t 14))⟩,
    ⟨(some 18), none, (.extr 1 (.t 14))⟩,
    ⟨(some 7), none, (.mv (.t 17))⟩,
    ⟨(some 8), none, (.mv (.t 18))⟩] [15, 16, 14, 17, 18])
  (.seq
  (.block 0
   (.seq
   (.reg [⟨(some 20), none, (.faddr 1 (.t 3))⟩,
     ⟨(some 21), none, (.ld false 1 (.t 20))⟩,
     ⟨(some 22), none, (.bin .gtr (.t 21) (.c (.int .i64 0)))⟩,
     ⟨(some 23), none, (.mv (.t 22))⟩,
     ⟨(some 24), (some (23, true)), (.mv (.t 8))⟩,
     ⟨(some 25), (some (23, true)), (.mv (.t 24))⟩,
     ⟨(some 26), (some (25, true)), (.ld true 3 (.t 2))⟩,
     ⟨(some 27), (some (25, true)), (.mv (.t 7))⟩,
     ⟨(some 28), (some (25, true)), (.call 41 [(.t 26), (.t 27)])⟩,
     ⟨(some 29), (some (23, true)), (.pick (.t 25) (.t 28) (.c (.bool false)))⟩,
     ⟨(some 30), (some (23, true)), (.mv (.t 29))⟩,
     ⟨(some 31), (some (30, false)), (.ld true 3 (.t 2))⟩,
     ⟨(some 32), (some (30, false)), (.mv (.t 6))⟩,
     ⟨(some 33), (some (30, false)), (.bin .sub (.t 32) (.c (.int .i64 1)))⟩,
     ⟨(some 34), (some (30, false)), (.call 41 [(.t 31), (.t 33)])⟩,
     ⟨(some 35), (some (23, true)), (.pick (.t 30) (.c (.bool true)) (.t 34))⟩,
     ⟨(some 36), none, (.pick (.t 23) (.t 35) (.c (.bool false)))⟩,
     ⟨(some 19), none, (.mv (.t 36))⟩] [20, 21, 22, 23, 24, 25, 26, 27, 28, 29, 30, 31, 32, 33, 34, 35, 36])
   (.cond (.t 19)
    (.seq
    (.dreg 5120 5344 [⟨(some 37), none, (.ld true 3 (.t 2))⟩,
      ⟨(some 38), none, (.ld true 3 (.t 3))⟩,
      ⟨(some 39), none, (.mv (.t 6))⟩,
      ⟨(some 40), none, (.faddr 1 (.t 2))⟩,
      ⟨(some 41), none, (.ld false 1 (.t 40))⟩,
      ⟨(some 42), none, (.mx (.t 39) (.t 41))⟩,
      ⟨(some 43), none, (.faddr 1 (.t 3))⟩,
      ⟨(some 44), none, (.ld false 1 (.t 43))⟩,
      ⟨(some 45), none, (.call 18 [(.t 44)])⟩,
      ⟨(some 46), none, (.call 42 [(.t 37), (.t 38), (.t 42), (.t 45)])⟩,
      ⟨(some 47), none, (.extr 0 (.t 46))⟩,
      ⟨(some 48), none, (.extr 1 (.t 46))⟩,
      ⟨none, none, (.st 3 (.t 4) (.t 47))⟩,
      ⟨(some 5), none, (.mv (.t 48))⟩] [37, 38, 39, 40, 41, 42, 43, 44, 45, 46, 47, 48] [[], [], [], [], [3], [2, 4, 3], [], [6], [7, 6], [0, 1, 5, 3, 4, 2, 8, 6, 7], [9, 7, 6, 8, 2, 4, 3, 5, 1, 0], [9, 7, 6, 8, 2, 4, 3, 5, 1, 0], [10, 11, 0, 1, 5, 3, 4, 2, 8, 6, 7, 9], [12, 9, 7, 6, 8, 2, 4, 3, 5, 1, 0, 11, 10]] [5120, 5136, 5152, 5168, 5184, 5200, 5216, 5232, 5248, 5264, 5280, 5296, 5312, 5328])
    .ret)
    (.seq
    (.reg [⟨(some 50), none, (.faddr 1 (.t 3))⟩,
      ⟨(some 51), none, (.ld false 1 (.t 50))⟩,
      ⟨(some 52), none, (.bin .eql (.t 51) (.c (.int .i64 0)))⟩,
      ⟨(some 53), none, (.mv (.t 52))⟩,
      ⟨(some 54), (some (53, false)), (.faddr 1 (.t 2))⟩,
      ⟨(some 55), (some (53, false)), (.ld false 1 (.t 54))⟩,
      ⟨(some 56), (some (53, false)), (.faddr 0 (.t 3))⟩,
      ⟨(some 57), (some (53, false)), (.ld false 1 (.t 56))⟩,
      ⟨(some 58), (some (53, false)), (.faddr 1 (.t 3))⟩,
      ⟨(some 59), (some (53, false)), (.ld false 1 (.t 58))⟩,
      ⟨(some 60), (some (53, false)), (.bin .sub (.t 57) (.t 59))⟩,
      ⟨(some 61), (some (53, false)), (.bin .leq (.t 55) (.t 60))⟩,
      ⟨(some 62), none, (.pick (.t 53) (.c (.bool true)) (.t 61))⟩,
      ⟨(some 63), none, (.mv (.t 62))⟩,
      ⟨(some 64), (some (63, false)), (.faddr 0 (.t 2))⟩,
      ⟨(some 65), (some (63, false)), (.ld false 1 (.t 64))⟩,
      ⟨(some 66), (some (63, false)), (.mv (.t 6))⟩,
      ⟨(some 67), (some (63, false)), (.bin .gtr (.t 65) (.t 66))⟩,
      ⟨(some 68), none, (.pick (.t 63) (.c (.bool true)) (.t 67))⟩,
      ⟨(some 49), none, (.mv (.t 68))⟩] [50, 51, 52, 53, 54, 55, 56, 57, 58, 59, 60, 61, 62, 63, 64, 65, 66, 67, 68])
    (.cond (.t 49)
     (.seq
     (.dreg 7168 7408 [⟨(some 69), none, (.ld true 3 (.t 2))⟩,
       ⟨(some 70), none, (.ld true 3 (.t 3))⟩,
       ⟨(some 71), none, (.faddr 1 (.t 2))⟩,
       ⟨(some 72), none, (.ld false 1 (.t 71))⟩,
       ⟨(some 73), none, (.faddr 1 (.t 2))⟩,
       ⟨(some 74), none, (.ld false 1 (.t 73))⟩,
       ⟨(some 75), none, (.faddr 0 (.t 2))⟩,
       ⟨(some 76), none, (.ld false 1 (.t 75))⟩,
       ⟨(some 77), none, (.bin .sub (.t 74) (.t 76))⟩,
       ⟨(some 78), none, (.call 16 [(.t 77)])⟩,
       ⟨(some 79), none, (.call 42 [(.t 69), (.t 70), (.t 72), (.t 78)])⟩,
       ⟨(some 80), none, (.extr 0 (.t 79))⟩,
       ⟨(some 81), none, (.extr 1 (.t 79))⟩,
       ⟨none, none, (.st 3 (.t 4) (.t 80))⟩,
       ⟨(some 5), none, (.mv (.t 81))⟩] [69, 70, 71, 72, 73, 74, 75, 76, 77, 78, 79, 80, 81] [[], [], [], [2], [], [4], [], [6], [5, 4, 7, 6], [8, 6, 7, 4, 5], [0, 1, 3, 2, 9, 5, 4, 7, 6, 8], [10, 8, 6, 7, 4, 5, 9, 2, 3, 1, 0], [10, 8, 6, 7, 4, 5, 9, 2, 3, 1, 0], [11, 12, 0, 1, 3, 2, 9, 5, 4, 7, 6, 8, 10], [13, 10, 8, 6, 7, 4, 5, 9, 2, 3, 1, 0, 12, 11]] [7168, 7184, 7200, 7216, 7232, 7248, 7264, 7280, 7296, 7312, 7328, 7344, 7360, 7376, 7392])
     .ret)
     .skip)))))
  (.seq
  (.reg [⟨(some 82), none, (.ld true 3 (.t 3))⟩,
    ⟨none, none, (.st 3 (.t 4) (.t 82))⟩,
    ⟨(some 5), none, (.mv (.c (.lst 0 true [])))⟩] [82])
  .ret)))))
theorem rcq27 : resC Go.Proofs.Tryd.prog Go.Proofs.Tryd.f27.ntmps ((Go.Proofs.Tryd.f27.body).getD .skip) = some (strip rc27) := by kernel_rfl
def rv27 : List RV := [(.cell 4 true 3), (.tmp 5)]
theorem rvq27 : Go.Proofs.Tryd.f27.results.toList.mapM (resRV Go.Proofs.Tryd.prog) = some rv27 := by kernel_rfl

/- pagecache/readahead.Plan -/
def rc9 : RC :=
  (.seq
  (.reg [⟨(some 5), none, (.box (.t 0))⟩,
    ⟨(some 6), none, (.box (.t 1))⟩,
    ⟨(some 10), none, (.alloc [(.int .i64 0), (.int .i64 0), (.int .i64 0)])⟩,
    ⟨(some 11), none, (.mv (.c (.lst 0 true [])))⟩,
    ⟨(some 12), none, (.mv (.c (.int .i64 0)))⟩] [])
  (.seq
  (.seq
  (.reg [⟨(some 19), none, (.ld true 3 (.t 5))⟩,
    ⟨(some 20), none, (.call 14 [(.t 19)])⟩,
    ⟨(some 21), none, (.un .not (.t 20))⟩,
    ⟨(some 22), none, (.mv (.t 21))⟩,
    ⟨(some 23), (some (22, false)), (.ld true 6 (.t 6))⟩,
    ⟨(some 24), (some (22, false)), (.bslice 6 [(.int .i64 0), (.int .i64 0), (.int .i64 0), (.int .i64 0), (.int .i64 0), (.int .i64 0)] 1 [(0, (.t 23))])⟩,
    ⟨(some 25), (some (22, false)), (.call 26 [(.t 24)])⟩,
    ⟨(some 26), (some (22, false)), (.un .not (.t 25))⟩,
    ⟨(some 27), none, (.pick (.t 22) (.c (.bool true)) (.t 26))⟩] [19, 20, 21, 22, 23, 24, 25, 26])
  (.cond (.t 27)
   (.seq
   (.reg [⟨(some 28), none, (.build [(.int .i64 0), (.int .i64 0), (.int .i64 0)] [])⟩,
     ⟨none, none, (.st 3 (.t 10) (.t 28))⟩,
     ⟨(some 11), none, (.mv (.c (.lst 0 true [])))⟩,
     ⟨(some 12), none, (.mv (.c (.int .i64 1)))⟩] [28])
   .ret)
   .skip))
  (.seq
  (.seq
  (.reg [⟨(some 29), none, (.mv (.t 2))⟩,
    ⟨(some 30), none, (.bin .lss (.t 29) (.c (.int .i64 0)))⟩,
    ⟨(some 31), none, (.mv (.t 30))⟩,
    ⟨(some 32), (some (31, false)), (.mv (.t 2))⟩,
    ⟨(some 33), (some (31, false)), (.mv (.t 3))⟩,
    ⟨(some 34), (some (31, false)), (.bin .geq (.t 32) (.t 33))⟩,
    ⟨(some 35), none, (.pick (.t 31) (.c (.bool true)) (.t 34))⟩,
    ⟨(some 36), none, (.mv (.t 35))⟩,
    ⟨(some 37), (some (36, false)), (.mv (.t 3))⟩,
    ⟨(some 38), (some (36, false)), (.bin .gtr (.t 37) (.c (.int .i64 256)))⟩,
    ⟨(some 39), none, (.pick (.t 36) (.c (.bool true)) (.t 38))⟩,
    ⟨(some 40), none, (.mv (.t 39))⟩,
    ⟨(some 41), (some (40, false)), (.mv (.t 4))⟩,
    ⟨(some 42), (some (40, false)), (.bin .lss (.t 41) (.c (.int .i64 0)))⟩,
    ⟨(some 43), none, (.pick (.t 40) (.c (.bool true)) (.t 42))⟩,
    ⟨(some 44), none, (.mv (.t 43))⟩,
    ⟨(some 45), (some (44, false)), (.mv (.t 4))⟩,
    ⟨(some 46), (some (44, false)), (.bin .gtr (.t 45) (.c (.int .i64 256)))⟩,
    ⟨(some 47), none, (.pick (.t 44) (.c (.bool true)) (.t 46))⟩] [29, 30, 31, 32, 33, 34, 35, 36, 37, 38, 39, 40, 41, 42, 43, 44, 45, 46])
  (.cond (.t 47)
   (.seq
   (.reg [⟨(some 48), none, (.build [(.int .i64 0), (.int .i64 0), (.int .i64 0)] [])⟩,
     ⟨none, none, (.st 3 (.t 10) (.t 48))⟩,
     ⟨(some 11), none, (.mv (.c (.lst 0 true [])))⟩,
     ⟨(some 12), none, (.mv (.c (.int .i64 2)))⟩] [48])
   .ret)
   .skip))
  (.seq
  (.reg [⟨(some 49), none, (.mv (.t 2))⟩,
    ⟨(some 50), none, (.mv (.t 3))⟩,
    ⟨(some 51), none, (.mv (.t 4))⟩,
    ⟨(some 52), none, (.build [(.int .i64 0), (.int .i64 0), (.int .i64 0)] [(0, (1, (.t 49))), (1, (1, (.t 50))), (2, (1, (.t 51)))])⟩,
    ⟨(some 13), none, (.alloc [(.int .i64 0), (.int .i64 0), (.int .i64 0)])⟩,
    ⟨none, none, (.st 3 (.t 13) (.t 52))⟩] [49, 50, 51, 52])
  (.seq
  (.seq
  (.reg [⟨(some 53), none, (.ld true 6 (.t 6))⟩,
    ⟨(some 54), none, (.call 21 [(.t 53)])⟩,
    ⟨(some 55), none, (.un .not (.t 54))⟩] [53, 54])
  (.cond (.t 55)
   (.seq
   (.reg [⟨(some 56), none, (.build [(.int .i64 0), (.int .i64 0), (.int .i64 0)] [])⟩,
     ⟨none, none, (.st 3 (.t 10) (.t 56))⟩,
     ⟨(some 11), none, (.mv (.c (.lst 0 true [])))⟩,
     ⟨(some 12), none, (.mv (.c (.int .i64 0)))⟩] [56])
   .ret)
   .skip))
  (.seq
  (.seq
  (.reg [⟨(some 57), none, (.faddr 0 (.t 6))⟩,
    ⟨(some 58), none, (.ld false 1 (.t 57))⟩,
    ⟨(some 59), none, (.bin .eql (.t 58) (.c (.int .i64 2)))⟩] [57, 58])
  (.cond (.t 59)
   (.seq
   (.reg [⟨(some 61), none, (.ld true 3 (.t 13))⟩,
     ⟨(some 62), none, (.ld true 3 (.t 5))⟩,
     ⟨(some 63), none, (.call 27 [(.t 61), (.t 62)])⟩,
     ⟨(some 60), none, (.mv (.t 63))⟩,
     ⟨(some 64), none, (.extr 0 (.t 60))⟩,
     ⟨(some 65), none, (.extr 1 (.t 60))⟩,
     ⟨(some 14), none, (.alloc [(.int .i64 0), (.int .i64 0), (.int .i64 0)])⟩,
     ⟨none, none, (.st 3 (.t 14) (.t 64))⟩,
     ⟨(some 15), none, (.mv (.t 65))⟩] [61, 62, 63, 60, 64, 65])
   (.seq
   (.reg [⟨(some 66), none, (.ld true 3 (.t 14))⟩,
     ⟨(some 67), none, (.mv (.t 15))⟩,
     ⟨none, none, (.st 3 (.t 10) (.t 66))⟩,
     ⟨(some 11), none, (.mv (.t 67))⟩,
     ⟨(some 12), none, (.mv (.c (.int .i64 0)))⟩] [66, 67])
   .ret))
   .skip))
  (.seq
  (.reg [⟨(some 16), none, (.mv (.c (.lst 0 true [])))⟩] [])
  (.seq
  (.seq
  (.dreg 13312 13440 [⟨(some 68), none, (.ld true 6 (.t 6))⟩,
    ⟨(some 69), none, (.mv (.t 3))⟩,
    ⟨(some 70), none, (.mv (.t 2))⟩,
    ⟨(some 71), none, (.bin .sub (.t 69) (.t 70))⟩,
    ⟨(some 72), none, (.call 16 [(.t 71)])⟩,
    ⟨(some 73), none, (.call 28 [(.t 68), (.t 72)])⟩,
    ⟨(some 74), none, (.len (.t 73))⟩,
    ⟨(some 75), none, (.mv (.c (.int .i64 0)))⟩] [68, 69, 70, 71, 72] [[], [], [], [1, 2], [3, 2, 1], [0, 4, 1, 2, 3], [5, 3, 2, 1, 4, 0], []] [13312, 13328, 13344, 13360, 13376, 13392, 13408, 13424])
  (.block 0
   (.loop
    (.seq
    (.reg [⟨(some 76), none, (.bin .lss (.t 75) (.t 74))⟩] [])
    (.seq
    (.cond (.t 76)
     .skip
     (.exit 0))
    (.seq
    (.block 1
     (.seq
     (.reg [⟨(some 77), none, (.iaddr 1 (.t 73) (.t 75))⟩,
       ⟨(some 78), none, (.ld false 1 (.t 77))⟩,
       ⟨(some 18), none, (.mv (.t 78))⟩] [77, 78])
     (.seq
     (.reg [⟨(some 79), none, (.mv (.t 18))⟩,
       ⟨(some 80), none, (.mv (.t 4))⟩,
       ⟨(some 81), none, (.bin .lss (.t 79) (.t 80))⟩] [79, 80])
     (.cond (.t 81)
      (.reg [⟨(some 82), none, (.mv (.t 16))⟩,
        ⟨(some 83), none, (.mv (.t 18))⟩,
        ⟨(some 84), none, (.bslice 1 [(.int .i64 0)] 1 [(0, (.t 83))])⟩,
        ⟨(some 85), none, (.app 1 8 (.t 82) (.t 84))⟩,
        ⟨(some 16), none, (.mv (.t 85))⟩] [82, 83, 84, 85])
      .skip))))
    (.reg [⟨(some 86), none, (.bin .add (.t 75) (.c (.int .i64 1)))⟩,
      ⟨(some 75), none, (.mv (.t 86))⟩] [86])))))))
  (.seq
  (.reg [⟨(some 87), none, (.build [(.int .i64 0), (.int .i64 0), (.int .i64 0)] [])⟩,
    ⟨(some 88), none, (.mv (.t 16))⟩,
    ⟨none, none, (.st 3 (.t 10) (.t 87))⟩,
    ⟨(some 11), none, (.mv (.t 88))⟩,
    ⟨(some 12), none, (.mv (.c (.int .i64 0)))⟩] [87, 88])
  .ret)))))))))
theorem rcq9 : resC Go.Proofs.Tryd.prog Go.Proofs.Tryd.f9.ntmps ((Go.Proofs.Tryd.f9.body).getD .skip) = some (strip rc9) := by kernel_rfl
def rv9 : List RV := [(.cell 10 true 3), (.tmp 11), (.tmp 12)]
theorem rvq9 : Go.Proofs.Tryd.f9.results.toList.mapM (resRV Go.Proofs.Tryd.prog) = some rv9 := by kernel_rfl

theorem checkW_iff (w : Win) : checkW w = true ↔ w = zeroWin ∨ (0 ≤ w.start ∧ w.start ≤ 255 ∧ 1 ≤ w.size ∧ w.size ≤ 8 ∧ 0 ≤ w.async ∧ w.async ≤ w.size) := by
  rw [← zeroW_iff, ← okW_iff, checkW]
  cases zeroW w <;> simp
theorem checkW_in {w : Win} (h : checkW w = true) : 0 ≤ w.start ∧ w.start ≤ 255 ∧ 0 ≤ w.size ∧ w.size ≤ 8 ∧ 0 ≤ w.async ∧ w.async ≤ w.size := by
  rcases (checkW_iff w).1 h with rfl | h
  · simp [zeroWin]
  · omega
theorem markerF_ok {w : Win} (h : checkW w = true) : markerF w = bif w.async == 0 then (0, false) else (w.start + w.size - w.async, true) := by
  have := checkW_in h
  simp only [markerF, h, Bool.not_true, Bool.false_or]
  cases w.async == 0
  · simp only [cond_false]; rw [wrapI (n := w.start + w.size) (by omega) (by omega), wrapI (by omega) (by omega)]
  · rfl
theorem grownF_in (n : Int) : 1 ≤ grownF n ∧ grownF n ≤ 8 := by unfold grownF; split <;> (try split) <;> omega
theorem firstF_in (n : Int) : 2 ≤ firstF n ∧ firstF n ≤ 8 := by unfold firstF; split <;> (try split) <;> omega
def onP (w : Win) (a b : Int) : Bool := decide (0 < w.size) && (((markerF w).2 && hasF a b (markerF w).1) || hasF a b (w.start + w.size - 1))
def offP (w : Win) (a b : Int) : Bool := ((w.size == 0) || decide (b ≤ w.start - w.size)) || decide (w.start + w.size < a)
def forwardF (w : Win) (a b e : Int) : Win × List Int :=
  bif onP w a b then beginF e w (max (w.start + w.size) b) (grownF w.size) else bif offP w a b then beginF e w b (firstF (b - a)) else (w, [])
set_option maxRecDepth 20000 in
theorem okD27 (w : Win) (a b e : Int) (hw : checkW w = true) (ha : 0 ≤ a ∧ a < b ∧ b ≤ 256) (he : 0 ≤ e ∧ e ≤ 256) :
    FnC Tryd.prog 27 [] [.agg (spanC a b e), .agg w.c] (.tup [.agg (forwardF w a b e).1.c, .lst 1 false (rowsI (forwardF w a b e).2)]) [] := by
  have hin := checkW_in hw
  have h1w : IntKind.i64.wrap (w.start + w.size) = w.start + w.size := wrapI (by omega) (by omega)
  have h2w : IntKind.i64.wrap (w.start + w.size - 1) = w.start + w.size - 1 := wrapI (by omega) (by omega)
  have h3w : IntKind.i64.wrap (w.start - w.size) = w.start - w.size := wrapI (by omega) (by omega)
  have h4w : IntKind.i64.wrap (b - a) = b - a := wrapI (by omega) (by omega)
  have hg := grownF_in w.size
  have hf := firstF_in (b - a)
  refine fn_okC (ob0 := []) (rc := rc27) (rvs := rv27) Tryd.func27 rfl rcq27 rvq27 (show 2 ≤ _ by decide) ?_
  generalize hk : forwardF w a b e = q
  repeat ((conv => whnf); first | refine Cd.seq ?_ | refine Cd.cut ?_ | refine Cd.reg ?_ | refine Cd.block ?_ | refine Cd.cond ?_ | refine Cd.dreg ?_ | refine Cd.skip ?_ | refine Cd.ret ?_ | refine Cd.exit ?_ | refine Cd.loop ?_ | refine ⟨rfl, ?_⟩ | refine ⟨Nat.le_of_ble_eq_true rfl, ?_⟩ | refine ⟨.inl rfl, ?_⟩ | refine ⟨fun h => Bool.noConfusion h, ?_⟩)
  conv => whnf
  rw [h1w]
  repeat ((conv => whnf); first | refine Cd.seq ?_ | refine Cd.cut ?_ | refine Cd.reg ?_ | refine Cd.block ?_ | refine Cd.cond ?_ | refine Cd.dreg ?_ | refine Cd.skip ?_ | refine Cd.ret ?_ | refine Cd.exit ?_ | refine Cd.loop ?_ | refine ⟨rfl, ?_⟩ | refine ⟨Nat.le_of_ble_eq_true rfl, ?_⟩ | refine ⟨.inl rfl, ?_⟩ | refine ⟨fun h => Bool.noConfusion h, ?_⟩ | refine .inl ⟨_, fun _ => ⟨purA rfl, (by first | exact okD11 w)⟩, .inl rfl, ?_⟩)
  conv => whnf
  generalize hm : markerF w = mk
  repeat ((conv => whnf); first | refine Cd.seq ?_ | refine Cd.cut ?_ | refine Cd.reg ?_ | refine Cd.block ?_ | refine Cd.cond ?_ | refine Cd.dreg ?_ | refine Cd.skip ?_ | refine Cd.ret ?_ | refine Cd.exit ?_ | refine Cd.loop ?_ | refine ⟨rfl, ?_⟩ | refine ⟨Nat.le_of_ble_eq_true rfl, ?_⟩ | refine ⟨.inl rfl, ?_⟩ | refine ⟨fun h => Bool.noConfusion h, ?_⟩ | refine .inl ⟨_, fun _ => ⟨purA rfl, (by first | exact okD41 a b e mk.1 | exact okD41 a b e (IntKind.i64.wrap (w.start + w.size - 1)))⟩, .inl rfl, ?_⟩)
  conv => whnf
  rw [h2w]
  refine ⟨fun h1 => ?_, fun h1 => ?_⟩ <;> try simp only [Bool.cond_true_left, Bool.cond_false_right, Bool.not_eq_true', Bool.not_eq_false', Bool.not_not] at h1
  · have h1 : onP w a b = true := by simpa only [onP, hm] using h1
    simp only [forwardF, h1, cond_true] at hk
    repeat ((conv => whnf); first | refine Cd.seq ?_ | refine Cd.cut ?_ | refine Cd.reg ?_ | refine Cd.block ?_ | refine Cd.cond ?_ | refine Cd.dreg ?_ | refine Cd.skip ?_ | refine Cd.ret ?_ | refine Cd.exit ?_ | refine Cd.loop ?_ | refine ⟨rfl, ?_⟩ | refine ⟨Nat.le_of_ble_eq_true rfl, ?_⟩ | refine ⟨.inl rfl, ?_⟩ | refine ⟨fun h => Bool.noConfusion h, ?_⟩ | refine .inl ⟨_, fun _ => ⟨purA rfl, (by first | exact okD18 w.size | exact okD42 a b e w (max (w.start + w.size) b) (grownF w.size) (by omega) (by omega) (by omega))⟩, .inl rfl, ?_⟩)
    conv => whnf
    rw [hk]
    repeat ((conv => whnf); first | refine Cd.seq ?_ | refine Cd.cut ?_ | refine Cd.reg ?_ | refine Cd.block ?_ | refine Cd.cond ?_ | refine Cd.dreg ?_ | refine Cd.skip ?_ | refine Cd.ret ?_ | refine Cd.exit ?_ | refine Cd.loop ?_ | refine ⟨rfl, ?_⟩ | refine ⟨Nat.le_of_ble_eq_true rfl, ?_⟩ | refine ⟨.inl rfl, ?_⟩ | refine ⟨fun h => Bool.noConfusion h, ?_⟩)
    conv => whnf
    refine ⟨[], ?_, rfl, trivial, rfl, ?_⟩
    · exact trivial
    try subst hk
    repeat' (first | exact trivial | rfl | exact .inl rfl | exact .inr rfl | exact id | exact (fun h => Bool.noConfusion h) | refine And.intro ?_ ?_)
  have h1 : onP w a b = false := by simpa only [onP, hm] using h1
  simp only [forwardF, h1, cond_false] at hk
  repeat ((conv => whnf); first | refine Cd.seq ?_ | refine Cd.cut ?_ | refine Cd.reg ?_ | refine Cd.block ?_ | refine Cd.cond ?_ | refine Cd.dreg ?_ | refine Cd.skip ?_ | refine Cd.ret ?_ | refine Cd.exit ?_ | refine Cd.loop ?_ | refine ⟨rfl, ?_⟩ | refine ⟨Nat.le_of_ble_eq_true rfl, ?_⟩ | refine ⟨.inl rfl, ?_⟩ | refine ⟨fun h => Bool.noConfusion h, ?_⟩)
  conv => whnf
  rw [h3w]
  refine ⟨fun h2 => ?_, fun h2 => ?_⟩ <;> try simp only [Bool.cond_true_left, Bool.cond_false_right, Bool.not_eq_true', Bool.not_eq_false', Bool.not_not] at h2
  · have h2 : offP w a b = true := h2
    simp only [h2, cond_true] at hk
    repeat ((conv => whnf); first | refine Cd.seq ?_ | refine Cd.cut ?_ | refine Cd.reg ?_ | refine Cd.block ?_ | refine Cd.cond ?_ | refine Cd.dreg ?_ | refine Cd.skip ?_ | refine Cd.ret ?_ | refine Cd.exit ?_ | refine Cd.loop ?_ | refine ⟨rfl, ?_⟩ | refine ⟨Nat.le_of_ble_eq_true rfl, ?_⟩ | refine ⟨.inl rfl, ?_⟩ | refine ⟨fun h => Bool.noConfusion h, ?_⟩)
    conv => whnf
    rw [h4w]
    repeat ((conv => whnf); first | refine Cd.seq ?_ | refine Cd.cut ?_ | refine Cd.reg ?_ | refine Cd.block ?_ | refine Cd.cond ?_ | refine Cd.dreg ?_ | refine Cd.skip ?_ | refine Cd.ret ?_ | refine Cd.exit ?_ | refine Cd.loop ?_ | refine ⟨rfl, ?_⟩ | refine ⟨Nat.le_of_ble_eq_true rfl, ?_⟩ | refine ⟨.inl rfl, ?_⟩ | refine ⟨fun h => Bool.noConfusion h, ?_⟩ | refine .inl ⟨_, fun _ => ⟨purA rfl, (by first | exact okD16 (b - a) | exact okD42 a b e w b (firstF (b - a)) (by omega) (by omega) (by omega))⟩, .inl rfl, ?_⟩)
    conv => whnf
    rw [hk]
    repeat ((conv => whnf); first | refine Cd.seq ?_ | refine Cd.cut ?_ | refine Cd.reg ?_ | refine Cd.block ?_ | refine Cd.cond ?_ | refine Cd.dreg ?_ | refine Cd.skip ?_ | refine Cd.ret ?_ | refine Cd.exit ?_ | refine Cd.loop ?_ | refine ⟨rfl, ?_⟩ | refine ⟨Nat.le_of_ble_eq_true rfl, ?_⟩ | refine ⟨.inl rfl, ?_⟩ | refine ⟨fun h => Bool.noConfusion h, ?_⟩)
    conv => whnf
    refine ⟨[], ?_, rfl, trivial, rfl, ?_⟩
    · exact trivial
    try subst hk
    repeat' (first | exact trivial | rfl | exact .inl rfl | exact .inr rfl | exact id | exact (fun h => Bool.noConfusion h) | refine And.intro ?_ ?_)
  have h2 : offP w a b = false := h2
  simp only [h2, cond_false] at hk
  subst hk
  repeat ((conv => whnf); first | refine Cd.seq ?_ | refine Cd.cut ?_ | refine Cd.reg ?_ | refine Cd.block ?_ | refine Cd.cond ?_ | refine Cd.dreg ?_ | refine Cd.skip ?_ | refine Cd.ret ?_ | refine Cd.exit ?_ | refine Cd.loop ?_ | refine ⟨rfl, ?_⟩ | refine ⟨Nat.le_of_ble_eq_true rfl, ?_⟩ | refine ⟨.inl rfl, ?_⟩ | refine ⟨fun h => Bool.noConfusion h, ?_⟩)
  conv => whnf
  refine ⟨[], ?_, rfl, trivial, rfl, ?_⟩
  · exact trivial
  try subst hk
  repeat' (first | exact trivial | rfl | exact .inl rfl | exact .inr rfl | exact id | exact (fun h => Bool.noConfusion h) | refine And.intro ?_ ?_)
end Go.Proofs.YteelckbeekgfiaaDoor
