/- Readahead: Check, First, Grown, Marker; the reference's. -/
import Derived.Test.YteelckbeekgfiaaDoorW13
set_option linter.unusedSimpArgs false
set_option linter.unusedVariables false
namespace Go.Proofs.YteelckbeekgfiaaDoor
open Go Go.Sk Go.RowKit

/- pagecache/readahead.Check -/
def rc14 : RC :=
  (.seq
  (.reg [⟨(some 1), none, (.box (.t 0))⟩,
    ⟨(some 2), none, (.mv (.c (.bool false)))⟩] [])
  (.seq
  (.seq
  (.reg [⟨(some 3), none, (.ld true 3 (.t 1))⟩,
    ⟨(some 4), none, (.build [(.int .i64 0), (.int .i64 0), (.int .i64 0)] [])⟩,
    ⟨(some 5), none, (.eqs false [(0, false), (1, false), (2, false)] (.t 3) (.t 4))⟩] [3, 4])
  (.cond (.t 5)
   (.seq
   (.reg [⟨(some 2), none, (.mv (.c (.bool true)))⟩] [])
   .ret)
   .skip))
  (.seq
  (.reg [⟨(some 6), none, (.faddr 0 (.t 1))⟩,
    ⟨(some 7), none, (.ld false 1 (.t 6))⟩,
    ⟨(some 8), none, (.bin .geq (.t 7) (.c (.int .i64 0)))⟩,
    ⟨(some 9), none, (.mv (.t 8))⟩,
    ⟨(some 10), (some (9, true)), (.faddr 0 (.t 1))⟩,
    ⟨(some 11), (some (9, true)), (.ld false 1 (.t 10))⟩,
    ⟨(some 12), (some (9, true)), (.bin .leq (.t 11) (.c (.int .i64 255)))⟩,
    ⟨(some 13), none, (.pick (.t 9) (.t 12) (.c (.bool false)))⟩,
    ⟨(some 14), none, (.mv (.t 13))⟩,
    ⟨(some 15), (some (14, true)), (.faddr 1 (.t 1))⟩,
    ⟨(some 16), (some (14, true)), (.ld false 1 (.t 15))⟩,
    ⟨(some 17), (some (14, true)), (.bin .geq (.t 16) (.c (.int .i64 1)))⟩,
    ⟨(some 18), none, (.pick (.t 14) (.t 17) (.c (.bool false)))⟩,
    ⟨(some 19), none, (.mv (.t 18))⟩,
    ⟨(some 20), (some (19, true)), (.faddr 1 (.t 1))⟩,
    ⟨(some 21), (some (19, true)), (.ld false 1 (.t 20))⟩,
    ⟨(some 22), (some (19, true)), (.bin .leq (.t 21) (.c (.int .i64 8)))⟩,
    ⟨(some 23), none, (.pick (.t 19) (.t 22) (.c (.bool false)))⟩,
    ⟨(some 24), none, (.mv (.t 23))⟩,
    ⟨(some 25), (some (24, true)), (.faddr 2 (.t 1))⟩,
    ⟨(some 26), (some (24, true)), (.ld false 1 (.t 25))⟩,
    ⟨(some 27), (some (24, true)), (.bin .geq (.t 26) (.c (.int .i64 0)))⟩,
    ⟨(some 28), none, (.pick (.t 24) (.t 27) (.c (.bool false)))⟩,
    ⟨(some 29), none, (.mv (.t 28))⟩,
    ⟨(some 30), (some (29, true)), (.faddr 2 (.t 1))⟩,
    ⟨(some 31), (some (29, true)), (.ld false 1 (.t 30))⟩,
    ⟨(some 32), (some (29, true)), (.faddr 1 (.t 1))⟩,
    ⟨(some 33), (some (29, true)), (.ld false 1 (.t 32))⟩,
    ⟨(some 34), (some (29, true)), (.bin .leq (.t 31) (.t 33))⟩,
    ⟨(some 35), none, (.pick (.t 29) (.t 34) (.c (.bool false)))⟩,
    ⟨(some 2), none, (.mv (.t 35))⟩] [6, 7, 8, 9, 10, 11, 12, 13, 14, 15, 16, 17, 18, 19, 20, 21, 22, 23, 24, 25, 26, 27, 28, 29, 30, 31, 32, 33, 34, 35])
  .ret)))
theorem rcq14 : resC Go.Proofs.Tryd.prog Go.Proofs.Tryd.f14.ntmps ((Go.Proofs.Tryd.f14.body).getD .skip) = some (strip rc14) := by kernel_rfl
def rv14 : List RV := [(.tmp 2)]
theorem rvq14 : Go.Proofs.Tryd.f14.results.toList.mapM (resRV Go.Proofs.Tryd.prog) = some rv14 := by kernel_rfl

/- pagecache/pagecacheref07.Check -/
def rc15 : RC :=
  (.seq
  (.reg [⟨(some 1), none, (.box (.t 0))⟩,
    ⟨(some 2), none, (.mv (.c (.bool false)))⟩] [])
  (.seq
  (.seq
  (.reg [⟨(some 3), none, (.ld true 3 (.t 1))⟩,
    ⟨(some 4), none, (.build [(.int .i64 0), (.int .i64 0), (.int .i64 0)] [])⟩,
    ⟨(some 5), none, (.eqs false [(0, false), (1, false), (2, false)] (.t 3) (.t 4))⟩] [3, 4])
  (.cond (.t 5)
   (.seq
   (.reg [⟨(some 2), none, (.mv (.c (.bool true)))⟩] [])
   .ret)
   .skip))
  (.seq
  (.reg [⟨(some 6), none, (.faddr 0 (.t 1))⟩,
    ⟨(some 7), none, (.ld false 1 (.t 6))⟩,
    ⟨(some 8), none, (.bin .geq (.t 7) (.c (.int .i64 0)))⟩,
    ⟨(some 9), none, (.mv (.t 8))⟩,
    ⟨(some 10), (some (9, true)), (.faddr 0 (.t 1))⟩,
    ⟨(some 11), (some (9, true)), (.ld false 1 (.t 10))⟩,
    ⟨(some 12), (some (9, true)), (.bin .leq (.t 11) (.c (.int .i64 255)))⟩,
    ⟨(some 13), none, (.pick (.t 9) (.t 12) (.c (.bool false)))⟩,
    ⟨(some 14), none, (.mv (.t 13))⟩,
    ⟨(some 15), (some (14, true)), (.faddr 1 (.t 1))⟩,
    ⟨(some 16), (some (14, true)), (.ld false 1 (.t 15))⟩,
    ⟨(some 17), (some (14, true)), (.bin .geq (.t 16) (.c (.int .i64 1)))⟩,
    ⟨(some 18), none, (.pick (.t 14) (.t 17) (.c (.bool false)))⟩,
    ⟨(some 19), none, (.mv (.t 18))⟩,
    ⟨(some 20), (some (19, true)), (.faddr 1 (.t 1))⟩,
    ⟨(some 21), (some (19, true)), (.ld false 1 (.t 20))⟩,
    ⟨(some 22), (some (19, true)), (.bin .leq (.t 21) (.c (.int .i64 8)))⟩,
    ⟨(some 23), none, (.pick (.t 19) (.t 22) (.c (.bool false)))⟩,
    ⟨(some 24), none, (.mv (.t 23))⟩,
    ⟨(some 25), (some (24, true)), (.faddr 2 (.t 1))⟩,
    ⟨(some 26), (some (24, true)), (.ld false 1 (.t 25))⟩,
    ⟨(some 27), (some (24, true)), (.bin .geq (.t 26) (.c (.int .i64 0)))⟩,
    ⟨(some 28), none, (.pick (.t 24) (.t 27) (.c (.bool false)))⟩,
    ⟨(some 29), none, (.mv (.t 28))⟩,
    ⟨(some 30), (some (29, true)), (.faddr 2 (.t 1))⟩,
    ⟨(some 31), (some (29, true)), (.ld false 1 (.t 30))⟩,
    ⟨(some 32), (some (29, true)), (.faddr 1 (.t 1))⟩,
    ⟨(some 33), (some (29, true)), (.ld false 1 (.t 32))⟩,
    ⟨(some 34), (some (29, true)), (.bin .leq (.t 31) (.t 33))⟩,
    ⟨(some 35), none, (.pick (.t 29) (.t 34) (.c (.bool false)))⟩,
    ⟨(some 2), none, (.mv (.t 35))⟩] [6, 7, 8, 9, 10, 11, 12, 13, 14, 15, 16, 17, 18, 19, 20, 21, 22, 23, 24, 25, 26, 27, 28, 29, 30, 31, 32, 33, 34, 35])
  .ret)))
theorem rcq15 : resC Go.Proofs.Tryd.prog Go.Proofs.Tryd.f15.ntmps ((Go.Proofs.Tryd.f15.body).getD .skip) = some (strip rc15) := by kernel_rfl
def rv15 : List RV := [(.tmp 2)]
theorem rvq15 : Go.Proofs.Tryd.f15.results.toList.mapM (resRV Go.Proofs.Tryd.prog) = some rv15 := by kernel_rfl

/- pagecache/readahead.First -/
def rc16 : RC :=
  (.seq
  (.reg [⟨(some 2), none, (.mv (.c (.int .i64 0)))⟩] [])
  (.seq
  (.seq
  (.reg [⟨(some 5), none, (.ld true 3 (.c (.rp 3 [(.int .i64 2), (.int .i64 4), (.int .i64 8)] 0)))⟩,
    ⟨(some 6), none, (.mv (.c (.int .i64 0)))⟩] [])
  (.block 0
   (.loop
    (.seq
    (.reg [⟨(some 7), none, (.bin .lss (.t 6) (.c (.int .i64 3)))⟩] [])
    (.seq
    (.cond (.t 7)
     .skip
     (.exit 0))
    (.seq
    (.block 1
     (.seq
     (.reg [⟨(some 8), none, (.aidx 3 (.t 5) (.t 6))⟩,
       ⟨(some 4), none, (.mv (.t 8))⟩] [8])
     (.seq
     (.reg [⟨(some 9), none, (.mv (.t 4))⟩,
       ⟨(some 10), none, (.bin .quo (.t 9) (.c (.int .i64 2)))⟩,
       ⟨(some 11), none, (.mv (.t 0))⟩,
       ⟨(some 12), none, (.bin .geq (.t 10) (.t 11))⟩] [9, 10, 11])
     (.cond (.t 12)
      (.seq
      (.reg [⟨(some 13), none, (.mv (.t 4))⟩,
        ⟨(some 2), none, (.mv (.t 13))⟩] [13])
      .ret)
      .skip))))
    (.reg [⟨(some 14), none, (.bin .add (.t 6) (.c (.int .i64 1)))⟩,
      ⟨(some 6), none, (.mv (.t 14))⟩] [14])))))))
  (.seq
  (.reg [⟨(some 2), none, (.mv (.c (.int .i64 8)))⟩] [])
  .ret)))
theorem rcq16 : resC Go.Proofs.Tryd.prog Go.Proofs.Tryd.f16.ntmps ((Go.Proofs.Tryd.f16.body).getD .skip) = some (strip rc16) := by kernel_rfl
def rv16 : List RV := [(.tmp 2)]
theorem rvq16 : Go.Proofs.Tryd.f16.results.toList.mapM (resRV Go.Proofs.Tryd.prog) = some rv16 := by kernel_rfl

/- pagecache/pagecacheref07.First -/
def rc17 : RC :=
  (.seq
  (.reg [⟨(some 2), none, (.mv (.c (.int .i64 0)))⟩] [])
  (.seq
  (.reg [⟨(some 3), none, (.mv (.c (.int .i64 1)))⟩] [])
  (.seq
  (.block 0
   (.loop
    (.seq
    (.seq
    (.reg [⟨(some 4), none, (.mv (.t 3))⟩,
      ⟨(some 5), none, (.mv (.t 0))⟩,
      ⟨(some 6), none, (.bin .lss (.t 4) (.t 5))⟩,
      ⟨(some 7), none, (.mv (.t 6))⟩,
      ⟨(some 8), (some (7, true)), (.mv (.t 3))⟩,
      ⟨(some 9), (some (7, true)), (.bin .lss (.t 8) (.c (.int .i64 8)))⟩,
      ⟨(some 10), none, (.pick (.t 7) (.t 9) (.c (.bool false)))⟩] [4, 5, 6, 7, 8, 9])
    (.cond (.t 10)
     .skip
     (.exit 0)))
    (.block 1
     (.reg [⟨(some 11), none, (.mv (.t 3))⟩,
       ⟨(some 12), none, (.bin .mul (.t 11) (.c (.int .i64 2)))⟩,
       ⟨(some 3), none, (.mv (.t 12))⟩] [11, 12])))))
  (.seq
  (.reg [⟨(some 13), none, (.mv (.t 3))⟩,
    ⟨(some 14), none, (.bin .mul (.c (.int .i64 2)) (.t 13))⟩,
    ⟨(some 15), none, (.mn (.t 14) (.c (.int .i64 8)))⟩,
    ⟨(some 2), none, (.mv (.t 15))⟩] [13, 14, 15])
  .ret))))
theorem rcq17 : resC Go.Proofs.Tryd.prog Go.Proofs.Tryd.f17.ntmps ((Go.Proofs.Tryd.f17.body).getD .skip) = some (strip rc17) := by kernel_rfl
def rv17 : List RV := [(.tmp 2)]
theorem rvq17 : Go.Proofs.Tryd.f17.results.toList.mapM (resRV Go.Proofs.Tryd.prog) = some rv17 := by kernel_rfl

/- pagecache/readahead.Grown -/
def rc18 : RC :=
  (.seq
  (.reg [⟨(some 2), none, (.mv (.c (.int .i64 0)))⟩] [])
  (.seq
  (.block 0
   (.seq
   (.reg [⟨(some 4), none, (.mv (.t 0))⟩,
     ⟨(some 5), none, (.bin .lss (.t 4) (.c (.int .i64 1)))⟩,
     ⟨(some 3), none, (.mv (.t 5))⟩] [4, 5])
   (.cond (.t 3)
    (.seq
    (.reg [⟨(some 2), none, (.mv (.c (.int .i64 1)))⟩] [])
    .ret)
    (.seq
    (.reg [⟨(some 7), none, (.mv (.t 0))⟩,
      ⟨(some 8), none, (.bin .gtr (.t 7) (.c (.int .i64 4)))⟩,
      ⟨(some 6), none, (.mv (.t 8))⟩] [7, 8])
    (.cond (.t 6)
     (.seq
     (.reg [⟨(some 2), none, (.mv (.c (.int .i64 8)))⟩] [])
     .ret)
     .skip)))))
  (.seq
  (.reg [⟨(some 9), none, (.mv (.t 0))⟩,
    ⟨(some 10), none, (.bin .mul (.c (.int .i64 2)) (.t 9))⟩,
    ⟨(some 2), none, (.mv (.t 10))⟩] [9, 10])
  .ret)))
theorem rcq18 : resC Go.Proofs.Tryd.prog Go.Proofs.Tryd.f18.ntmps ((Go.Proofs.Tryd.f18.body).getD .skip) = some (strip rc18) := by kernel_rfl
def rv18 : List RV := [(.tmp 2)]
theorem rvq18 : Go.Proofs.Tryd.f18.results.toList.mapM (resRV Go.Proofs.Tryd.prog) = some rv18 := by kernel_rfl

/- pagecache/pagecacheref07.Grown -/
def rc19 : RC :=
  (.seq
  (.reg [⟨(some 2), none, (.mv (.c (.int .i64 0)))⟩] [])
  (.seq
  (.seq
  (.reg [⟨(some 3), none, (.mv (.t 0))⟩,
    ⟨(some 4), none, (.bin .gtr (.t 3) (.c (.int .i64 8)))⟩] [3])
  (.cond (.t 4)
   (.seq
   (.reg [⟨(some 2), none, (.mv (.c (.int .i64 8)))⟩] [])
   .ret)
   .skip))
  (.seq
  (.reg [⟨(some 5), none, (.mv (.t 0))⟩,
    ⟨(some 6), none, (.bin .mul (.c (.int .i64 2)) (.t 5))⟩,
    ⟨(some 7), none, (.mn (.t 6) (.c (.int .i64 8)))⟩,
    ⟨(some 8), none, (.mx (.t 7) (.c (.int .i64 1)))⟩,
    ⟨(some 2), none, (.mv (.t 8))⟩] [5, 6, 7, 8])
  .ret)))
theorem rcq19 : resC Go.Proofs.Tryd.prog Go.Proofs.Tryd.f19.ntmps ((Go.Proofs.Tryd.f19.body).getD .skip) = some (strip rc19) := by kernel_rfl
def rv19 : List RV := [(.tmp 2)]
theorem rvq19 : Go.Proofs.Tryd.f19.results.toList.mapM (resRV Go.Proofs.Tryd.prog) = some rv19 := by kernel_rfl

/- pagecache/readahead.Marker -/
def rc11 : RC :=
  (.seq
  (.reg [⟨(some 1), none, (.box (.t 0))⟩,
    ⟨(some 2), none, (.mv (.c (.int .i64 0)))⟩,
    ⟨(some 3), none, (.mv (.c (.bool false)))⟩] [])
  (.seq
  (.seq
  (.reg [⟨(some 4), none, (.ld true 3 (.t 1))⟩,
    ⟨(some 5), none, (.call 14 [(.t 4)])⟩,
    ⟨(some 6), none, (.un .not (.t 5))⟩,
    ⟨(some 7), none, (.mv (.t 6))⟩,
    ⟨(some 8), (some (7, false)), (.faddr 2 (.t 1))⟩,
    ⟨(some 9), (some (7, false)), (.ld false 1 (.t 8))⟩,
    ⟨(some 10), (some (7, false)), (.bin .eql (.t 9) (.c (.int .i64 0)))⟩,
    ⟨(some 11), none, (.pick (.t 7) (.c (.bool true)) (.t 10))⟩] [4, 5, 6, 7, 8, 9, 10])
  (.cond (.t 11)
   (.seq
   (.reg [⟨(some 2), none, (.mv (.c (.int .i64 0)))⟩,
     ⟨(some 3), none, (.mv (.c (.bool false)))⟩] [])
   .ret)
   .skip))
  (.seq
  (.reg [⟨(some 12), none, (.faddr 0 (.t 1))⟩,
    ⟨(some 13), none, (.ld false 1 (.t 12))⟩,
    ⟨(some 14), none, (.faddr 1 (.t 1))⟩,
    ⟨(some 15), none, (.ld false 1 (.t 14))⟩,
    ⟨(some 16), none, (.bin .add (.t 13) (.t 15))⟩,
    ⟨(some 17), none, (.faddr 2 (.t 1))⟩,
    ⟨(some 18), none, (.ld false 1 (.t 17))⟩,
    ⟨(some 19), none, (.bin .sub (.t 16) (.t 18))⟩,
    ⟨(some 2), none, (.mv (.t 19))⟩,
    ⟨(some 3), none, (.mv (.c (.bool true)))⟩] [12, 13, 14, 15, 16, 17, 18, 19])
  .ret)))
theorem rcq11 : resC Go.Proofs.Tryd.prog Go.Proofs.Tryd.f11.ntmps ((Go.Proofs.Tryd.f11.body).getD .skip) = some (strip rc11) := by kernel_rfl
def rv11 : List RV := [(.tmp 2), (.tmp 3)]
theorem rvq11 : Go.Proofs.Tryd.f11.results.toList.mapM (resRV Go.Proofs.Tryd.prog) = some rv11 := by kernel_rfl

/- pagecache/pagecacheref07.Marker -/
def rc12 : RC :=
  (.seq
  (.reg [⟨(some 1), none, (.box (.t 0))⟩,
    ⟨(some 2), none, (.mv (.c (.int .i64 0)))⟩,
    ⟨(some 3), none, (.mv (.c (.bool false)))⟩] [])
  (.seq
  (.seq
  (.reg [⟨(some 4), none, (.ld true 3 (.t 1))⟩,
    ⟨(some 5), none, (.call 15 [(.t 4)])⟩,
    ⟨(some 6), none, (.un .not (.t 5))⟩,
    ⟨(some 7), none, (.mv (.t 6))⟩,
    ⟨(some 8), (some (7, false)), (.faddr 2 (.t 1))⟩,
    ⟨(some 9), (some (7, false)), (.ld false 1 (.t 8))⟩,
    ⟨(some 10), (some (7, false)), (.bin .eql (.t 9) (.c (.int .i64 0)))⟩,
    ⟨(some 11), none, (.pick (.t 7) (.c (.bool true)) (.t 10))⟩] [4, 5, 6, 7, 8, 9, 10])
  (.cond (.t 11)
   (.seq
   (.reg [⟨(some 2), none, (.mv (.c (.int .i64 0)))⟩,
     ⟨(some 3), none, (.mv (.c (.bool false)))⟩] [])
   .ret)
   .skip))
  (.seq
  (.reg [⟨(some 12), none, (.faddr 0 (.t 1))⟩,
    ⟨(some 13), none, (.ld false 1 (.t 12))⟩,
    ⟨(some 14), none, (.faddr 1 (.t 1))⟩,
    ⟨(some 15), none, (.ld false 1 (.t 14))⟩,
    ⟨(some 16), none, (.bin .add (.t 13) (.t 15))⟩,
    ⟨(some 17), none, (.faddr 2 (.t 1))⟩,
    ⟨(some 18), none, (.ld false 1 (.t 17))⟩,
    ⟨(some 19), none, (.bin .sub (.t 16) (.t 18))⟩,
    ⟨(some 2), none, (.mv (.t 19))⟩,
    ⟨(some 3), none, (.mv (.c (.bool true)))⟩] [12, 13, 14, 15, 16, 17, 18, 19])
  .ret)))
theorem rcq12 : resC Go.Proofs.Tryd.prog Go.Proofs.Tryd.f12.ntmps ((Go.Proofs.Tryd.f12.body).getD .skip) = some (strip rc12) := by kernel_rfl
def rv12 : List RV := [(.tmp 2), (.tmp 3)]
theorem rvq12 : Go.Proofs.Tryd.f12.results.toList.mapM (resRV Go.Proofs.Tryd.prog) = some rv12 := by kernel_rfl

structure Win where
  start : Int
  size : Int
  async : Int
def Win.c (w : Win) : List V := [.int .i64 w.start, .int .i64 w.size, .int .i64 w.async]
def zeroWin : Win := ⟨0, 0, 0⟩
def zeroW (w : Win) : Bool := true && (w.start == 0) && (w.size == 0) && (w.async == 0)
def okW (w : Win) : Bool := bif bif bif bif bif decide (0 ≤ w.start) then decide (w.start ≤ 255) else false then decide (1 ≤ w.size) else false then decide (w.size ≤ 8) else false then decide (0 ≤ w.async) else false then decide (w.async ≤ w.size) else false
def checkW (w : Win) : Bool := bif zeroW w then true else okW w
theorem zeroW_iff (w : Win) : zeroW w = true ↔ w = zeroWin := by
  obtain ⟨a, b, c⟩ := w
  simp [zeroW, zeroWin, and_assoc]
theorem okW_iff (w : Win) : okW w = true ↔ 0 ≤ w.start ∧ w.start ≤ 255 ∧ 1 ≤ w.size ∧ w.size ≤ 8 ∧ 0 ≤ w.async ∧ w.async ≤ w.size := by
  simp [okW, and_assoc]
theorem okD14 (w : Win) : FnC Tryd.prog 14 [] [.agg w.c] (.bool (checkW w)) [] := by
  refine fn_okC (ob0 := []) (rc := rc14) (rvs := rv14) Tryd.func14 rfl rcq14 rvq14 (show 1 ≤ _ by decide) ?_
  generalize hk : checkW w = q
  repeat ((conv => whnf); first | refine Cd.seq ?_ | refine Cd.cut ?_ | refine Cd.reg ?_ | refine Cd.block ?_ | refine Cd.cond ?_ | refine Cd.dreg ?_ | refine Cd.skip ?_ | refine Cd.ret ?_ | refine Cd.exit ?_ | refine Cd.loop ?_ | refine ⟨rfl, ?_⟩ | refine ⟨Nat.le_of_ble_eq_true rfl, ?_⟩ | refine ⟨.inl rfl, ?_⟩ | refine ⟨fun h => Bool.noConfusion h, ?_⟩)
  conv => whnf
  refine ⟨fun h1 => ?_, fun h1 => ?_⟩ <;> try simp only [Bool.cond_true_left, Bool.cond_false_right, Bool.not_eq_true', Bool.not_eq_false', Bool.not_not] at h1
  · have h1 : zeroW w = true := h1
    repeat ((conv => whnf); first | refine Cd.seq ?_ | refine Cd.cut ?_ | refine Cd.reg ?_ | refine Cd.block ?_ | refine Cd.cond ?_ | refine Cd.dreg ?_ | refine Cd.skip ?_ | refine Cd.ret ?_ | refine Cd.exit ?_ | refine Cd.loop ?_ | refine ⟨rfl, ?_⟩ | refine ⟨Nat.le_of_ble_eq_true rfl, ?_⟩ | refine ⟨.inl rfl, ?_⟩ | refine ⟨fun h => Bool.noConfusion h, ?_⟩)
    conv => whnf
    refine ⟨[], ?_, rfl, trivial, rfl, ?_⟩
    · exact trivial
    try subst hk
    simp only [checkW, h1, cond_true, cond_false, Bool.not_true, Bool.not_false]
    repeat' (first | exact trivial | rfl | exact .inl rfl | exact .inr rfl | exact id | exact (fun h => Bool.noConfusion h) | refine And.intro ?_ ?_)
  have h1 : zeroW w = false := h1
  repeat ((conv => whnf); first | refine Cd.seq ?_ | refine Cd.cut ?_ | refine Cd.reg ?_ | refine Cd.block ?_ | refine Cd.cond ?_ | refine Cd.dreg ?_ | refine Cd.skip ?_ | refine Cd.ret ?_ | refine Cd.exit ?_ | refine Cd.loop ?_ | refine ⟨rfl, ?_⟩ | refine ⟨Nat.le_of_ble_eq_true rfl, ?_⟩ | refine ⟨.inl rfl, ?_⟩ | refine ⟨fun h => Bool.noConfusion h, ?_⟩)
  conv => whnf
  refine ⟨[], ?_, rfl, trivial, rfl, ?_⟩
  · exact trivial
  try subst hk
  simp only [checkW, h1, cond_true, cond_false, Bool.not_true, Bool.not_false]
  repeat' (first | exact trivial | rfl | exact .inl rfl | exact .inr rfl | exact id | exact (fun h => Bool.noConfusion h) | refine And.intro ?_ ?_)
theorem okD15 (w : Win) : FnC Tryd.prog 15 [] [.agg w.c] (.bool (checkW w)) [] := by
  refine fn_okC (ob0 := []) (rc := rc15) (rvs := rv15) Tryd.func15 rfl rcq15 rvq15 (show 1 ≤ _ by decide) ?_
  generalize hk : checkW w = q
  repeat ((conv => whnf); first | refine Cd.seq ?_ | refine Cd.cut ?_ | refine Cd.reg ?_ | refine Cd.block ?_ | refine Cd.cond ?_ | refine Cd.dreg ?_ | refine Cd.skip ?_ | refine Cd.ret ?_ | refine Cd.exit ?_ | refine Cd.loop ?_ | refine ⟨rfl, ?_⟩ | refine ⟨Nat.le_of_ble_eq_true rfl, ?_⟩ | refine ⟨.inl rfl, ?_⟩ | refine ⟨fun h => Bool.noConfusion h, ?_⟩)
  conv => whnf
  refine ⟨fun h1 => ?_, fun h1 => ?_⟩ <;> try simp only [Bool.cond_true_left, Bool.cond_false_right, Bool.not_eq_true', Bool.not_eq_false', Bool.not_not] at h1
  · have h1 : zeroW w = true := h1
    repeat ((conv => whnf); first | refine Cd.seq ?_ | refine Cd.cut ?_ | refine Cd.reg ?_ | refine Cd.block ?_ | refine Cd.cond ?_ | refine Cd.dreg ?_ | refine Cd.skip ?_ | refine Cd.ret ?_ | refine Cd.exit ?_ | refine Cd.loop ?_ | refine ⟨rfl, ?_⟩ | refine ⟨Nat.le_of_ble_eq_true rfl, ?_⟩ | refine ⟨.inl rfl, ?_⟩ | refine ⟨fun h => Bool.noConfusion h, ?_⟩)
    conv => whnf
    refine ⟨[], ?_, rfl, trivial, rfl, ?_⟩
    · exact trivial
    try subst hk
    simp only [checkW, h1, cond_true, cond_false, Bool.not_true, Bool.not_false]
    repeat' (first | exact trivial | rfl | exact .inl rfl | exact .inr rfl | exact id | exact (fun h => Bool.noConfusion h) | refine And.intro ?_ ?_)
  have h1 : zeroW w = false := h1
  repeat ((conv => whnf); first | refine Cd.seq ?_ | refine Cd.cut ?_ | refine Cd.reg ?_ | refine Cd.block ?_ | refine Cd.cond ?_ | refine Cd.dreg ?_ | refine Cd.skip ?_ | refine Cd.ret ?_ | refine Cd.exit ?_ | refine Cd.loop ?_ | refine ⟨rfl, ?_⟩ | refine ⟨Nat.le_of_ble_eq_true rfl, ?_⟩ | refine ⟨.inl rfl, ?_⟩ | refine ⟨fun h => Bool.noConfusion h, ?_⟩)
  conv => whnf
  refine ⟨[], ?_, rfl, trivial, rfl, ?_⟩
  · exact trivial
  try subst hk
  simp only [checkW, h1, cond_true, cond_false, Bool.not_true, Bool.not_false]
  repeat' (first | exact trivial | rfl | exact .inl rfl | exact .inr rfl | exact id | exact (fun h => Bool.noConfusion h) | refine And.intro ?_ ?_)
def firstF (n : Int) : Int := if n ≤ 1 then 2 else if n ≤ 2 then 4 else 8
def grownF (n : Int) : Int := if n < 1 then 1 else if 4 < n then 8 else 2 * n
theorem okD18 (n : Int) : FnC Tryd.prog 18 [] [.int .i64 n] (.int .i64 (grownF n)) [] := by
  refine fn_okC (ob0 := []) (rc := rc18) (rvs := rv18) Tryd.func18 rfl rcq18 rvq18 (show 1 ≤ _ by decide) ?_
  generalize hk : grownF n = q
  repeat ((conv => whnf); first | refine Cd.seq ?_ | refine Cd.cut ?_ | refine Cd.reg ?_ | refine Cd.block ?_ | refine Cd.cond ?_ | refine Cd.dreg ?_ | refine Cd.skip ?_ | refine Cd.ret ?_ | refine Cd.exit ?_ | refine Cd.loop ?_ | refine ⟨rfl, ?_⟩ | refine ⟨Nat.le_of_ble_eq_true rfl, ?_⟩ | refine ⟨.inl rfl, ?_⟩ | refine ⟨fun h => Bool.noConfusion h, ?_⟩)
  conv => whnf
  refine ⟨fun h1 => ?_, fun h1 => ?_⟩ <;> try simp only [Bool.cond_true_left, Bool.cond_false_right, Bool.not_eq_true', Bool.not_eq_false', Bool.not_not] at h1
  · have h1 : n < 1 := by simpa using h1
    repeat ((conv => whnf); first | refine Cd.seq ?_ | refine Cd.cut ?_ | refine Cd.reg ?_ | refine Cd.block ?_ | refine Cd.cond ?_ | refine Cd.dreg ?_ | refine Cd.skip ?_ | refine Cd.ret ?_ | refine Cd.exit ?_ | refine Cd.loop ?_ | refine ⟨rfl, ?_⟩ | refine ⟨Nat.le_of_ble_eq_true rfl, ?_⟩ | refine ⟨.inl rfl, ?_⟩ | refine ⟨fun h => Bool.noConfusion h, ?_⟩)
    conv => whnf
    have : q = 1 := by rw [← hk, grownF, if_pos h1]
    refine ⟨[], ?_, rfl, trivial, rfl, ?_⟩
    · exact trivial
    try subst hk
    simp only [this, cond_true, cond_false, Bool.not_true, Bool.not_false]
    repeat' (first | exact trivial | rfl | exact .inl rfl | exact .inr rfl | exact id | exact (fun h => Bool.noConfusion h) | refine And.intro ?_ ?_)
  have h1 : ¬ n < 1 := by simpa using h1
  repeat ((conv => whnf); first | refine Cd.seq ?_ | refine Cd.cut ?_ | refine Cd.reg ?_ | refine Cd.block ?_ | refine Cd.cond ?_ | refine Cd.dreg ?_ | refine Cd.skip ?_ | refine Cd.ret ?_ | refine Cd.exit ?_ | refine Cd.loop ?_ | refine ⟨rfl, ?_⟩ | refine ⟨Nat.le_of_ble_eq_true rfl, ?_⟩ | refine ⟨.inl rfl, ?_⟩ | refine ⟨fun h => Bool.noConfusion h, ?_⟩)
  conv => whnf
  refine ⟨fun h2 => ?_, fun h2 => ?_⟩ <;> try simp only [Bool.cond_true_left, Bool.cond_false_right, Bool.not_eq_true', Bool.not_eq_false', Bool.not_not] at h2
  · have h2 : 4 < n := by simpa using h2
    repeat ((conv => whnf); first | refine Cd.seq ?_ | refine Cd.cut ?_ | refine Cd.reg ?_ | refine Cd.block ?_ | refine Cd.cond ?_ | refine Cd.dreg ?_ | refine Cd.skip ?_ | refine Cd.ret ?_ | refine Cd.exit ?_ | refine Cd.loop ?_ | refine ⟨rfl, ?_⟩ | refine ⟨Nat.le_of_ble_eq_true rfl, ?_⟩ | refine ⟨.inl rfl, ?_⟩ | refine ⟨fun h => Bool.noConfusion h, ?_⟩)
    conv => whnf
    have : q = 8 := by rw [← hk, grownF, if_neg h1, if_pos h2]
    refine ⟨[], ?_, rfl, trivial, rfl, ?_⟩
    · exact trivial
    try subst hk
    simp only [this, cond_true, cond_false, Bool.not_true, Bool.not_false]
    repeat' (first | exact trivial | rfl | exact .inl rfl | exact .inr rfl | exact id | exact (fun h => Bool.noConfusion h) | refine And.intro ?_ ?_)
  have h2 : ¬ 4 < n := by simpa using h2
  repeat ((conv => whnf); first | refine Cd.seq ?_ | refine Cd.cut ?_ | refine Cd.reg ?_ | refine Cd.block ?_ | refine Cd.cond ?_ | refine Cd.dreg ?_ | refine Cd.skip ?_ | refine Cd.ret ?_ | refine Cd.exit ?_ | refine Cd.loop ?_ | refine ⟨rfl, ?_⟩ | refine ⟨Nat.le_of_ble_eq_true rfl, ?_⟩ | refine ⟨.inl rfl, ?_⟩ | refine ⟨fun h => Bool.noConfusion h, ?_⟩)
  conv => whnf
  have : IntKind.i64.wrap (2 * n) = q := by rw [← hk, grownF, if_neg h1, if_neg h2, wrapI (by omega) (by omega)]
  rw [this]
  refine ⟨[], ?_, rfl, trivial, rfl, ?_⟩
  · exact trivial
  try subst hk
  repeat' (first | exact trivial | rfl | exact .inl rfl | exact .inr rfl | exact id | exact (fun h => Bool.noConfusion h) | refine And.intro ?_ ?_)
theorem okD19 (n : Int) (hn : -4611686018427387904 ≤ n ∨ n = -9223372036854775808) : FnC Tryd.prog 19 [] [.int .i64 n] (.int .i64 (grownF n)) [] := by
  refine fn_okC (ob0 := []) (rc := rc19) (rvs := rv19) Tryd.func19 rfl rcq19 rvq19 (show 1 ≤ _ by decide) ?_
  generalize hk : grownF n = q
  repeat ((conv => whnf); first | refine Cd.seq ?_ | refine Cd.cut ?_ | refine Cd.reg ?_ | refine Cd.block ?_ | refine Cd.cond ?_ | refine Cd.dreg ?_ | refine Cd.skip ?_ | refine Cd.ret ?_ | refine Cd.exit ?_ | refine Cd.loop ?_ | refine ⟨rfl, ?_⟩ | refine ⟨Nat.le_of_ble_eq_true rfl, ?_⟩ | refine ⟨.inl rfl, ?_⟩ | refine ⟨fun h => Bool.noConfusion h, ?_⟩)
  conv => whnf
  refine ⟨fun h1 => ?_, fun h1 => ?_⟩ <;> try simp only [Bool.cond_true_left, Bool.cond_false_right, Bool.not_eq_true', Bool.not_eq_false', Bool.not_not] at h1
  · have h1 : 8 < n := by simpa using h1
    repeat ((conv => whnf); first | refine Cd.seq ?_ | refine Cd.cut ?_ | refine Cd.reg ?_ | refine Cd.block ?_ | refine Cd.cond ?_ | refine Cd.dreg ?_ | refine Cd.skip ?_ | refine Cd.ret ?_ | refine Cd.exit ?_ | refine Cd.loop ?_ | refine ⟨rfl, ?_⟩ | refine ⟨Nat.le_of_ble_eq_true rfl, ?_⟩ | refine ⟨.inl rfl, ?_⟩ | refine ⟨fun h => Bool.noConfusion h, ?_⟩)
    conv => whnf
    have : q = 8 := by rw [← hk, grownF]; split <;> (try split) <;> omega
    refine ⟨[], ?_, rfl, trivial, rfl, ?_⟩
    · exact trivial
    try subst hk
    simp only [this, cond_true, cond_false, Bool.not_true, Bool.not_false]
    repeat' (first | exact trivial | rfl | exact .inl rfl | exact .inr rfl | exact id | exact (fun h => Bool.noConfusion h) | refine And.intro ?_ ?_)
  have h1 : ¬ 8 < n := by simpa using h1
  repeat ((conv => whnf); first | refine Cd.seq ?_ | refine Cd.cut ?_ | refine Cd.reg ?_ | refine Cd.block ?_ | refine Cd.cond ?_ | refine Cd.dreg ?_ | refine Cd.skip ?_ | refine Cd.ret ?_ | refine Cd.exit ?_ | refine Cd.loop ?_ | refine ⟨rfl, ?_⟩ | refine ⟨Nat.le_of_ble_eq_true rfl, ?_⟩ | refine ⟨.inl rfl, ?_⟩ | refine ⟨fun h => Bool.noConfusion h, ?_⟩)
  conv => whnf
  have : max (min (IntKind.i64.wrap (2 * n)) 8) 1 = q := by
    rcases hn with hn | rfl
    · rw [← hk, grownF, wrapI (by omega) (by omega)]; split <;> (try split) <;> omega
    · rw [← hk]; decide
  rw [this]
  refine ⟨[], ?_, rfl, trivial, rfl, ?_⟩
  · exact trivial
  try subst hk
  repeat' (first | exact trivial | rfl | exact .inl rfl | exact .inr rfl | exact id | exact (fun h => Bool.noConfusion h) | refine And.intro ?_ ?_)
def markerF (w : Win) : Int × Bool := bif !checkW w || w.async == 0 then (0, false) else (IntKind.i64.wrap (IntKind.i64.wrap (w.start + w.size) - w.async), true)
theorem okD11 (w : Win) : FnC Tryd.prog 11 [] [.agg w.c] (.tup [.int .i64 (markerF w).1, .bool (markerF w).2]) [] := by
  refine fn_okC (ob0 := []) (rc := rc11) (rvs := rv11) Tryd.func11 rfl rcq11 rvq11 (show 1 ≤ _ by decide) ?_
  generalize hk : markerF w = q
  repeat ((conv => whnf); first | refine Cd.seq ?_ | refine Cd.cut ?_ | refine Cd.reg ?_ | refine Cd.block ?_ | refine Cd.cond ?_ | refine Cd.dreg ?_ | refine Cd.skip ?_ | refine Cd.ret ?_ | refine Cd.exit ?_ | refine Cd.loop ?_ | refine ⟨rfl, ?_⟩ | refine ⟨Nat.le_of_ble_eq_true rfl, ?_⟩ | refine ⟨.inl rfl, ?_⟩ | refine ⟨fun h => Bool.noConfusion h, ?_⟩ | refine .inl ⟨_, fun _ => ⟨purA rfl, (by first | exact okD14 w)⟩, .inl rfl, ?_⟩)
  conv => whnf
  refine ⟨fun h1 => ?_, fun h1 => ?_⟩ <;> try simp only [Bool.cond_true_left, Bool.cond_false_right, Bool.not_eq_true', Bool.not_eq_false', Bool.not_not] at h1
  · have h1 : (!checkW w || w.async == 0) = true := h1
    repeat ((conv => whnf); first | refine Cd.seq ?_ | refine Cd.cut ?_ | refine Cd.reg ?_ | refine Cd.block ?_ | refine Cd.cond ?_ | refine Cd.dreg ?_ | refine Cd.skip ?_ | refine Cd.ret ?_ | refine Cd.exit ?_ | refine Cd.loop ?_ | refine ⟨rfl, ?_⟩ | refine ⟨Nat.le_of_ble_eq_true rfl, ?_⟩ | refine ⟨.inl rfl, ?_⟩ | refine ⟨fun h => Bool.noConfusion h, ?_⟩)
    conv => whnf
    refine ⟨[], ?_, rfl, trivial, rfl, ?_⟩
    · exact trivial
    try subst hk
    simp only [markerF, h1, cond_true, cond_false, Bool.not_true, Bool.not_false]
    repeat' (first | exact trivial | rfl | exact .inl rfl | exact .inr rfl | exact id | exact (fun h => Bool.noConfusion h) | refine And.intro ?_ ?_)
  have h1 : (!checkW w || w.async == 0) = false := h1
  repeat ((conv => whnf); first | refine Cd.seq ?_ | refine Cd.cut ?_ | refine Cd.reg ?_ | refine Cd.block ?_ | refine Cd.cond ?_ | refine Cd.dreg ?_ | refine Cd.skip ?_ | refine Cd.ret ?_ | refine Cd.exit ?_ | refine Cd.loop ?_ | refine ⟨rfl, ?_⟩ | refine ⟨Nat.le_of_ble_eq_true rfl, ?_⟩ | refine ⟨.inl rfl, ?_⟩ | refine ⟨fun h => Bool.noConfusion h, ?_⟩)
  conv => whnf
  refine ⟨[], ?_, rfl, trivial, rfl, ?_⟩
  · exact trivial
  try subst hk
  simp only [markerF, h1, cond_true, cond_false, Bool.not_true, Bool.not_false]
  repeat' (first | exact trivial | rfl | exact .inl rfl | exact .inr rfl | exact id | exact (fun h => Bool.noConfusion h) | refine And.intro ?_ ?_)
theorem okD12 (w : Win) : FnC Tryd.prog 12 [] [.agg w.c] (.tup [.int .i64 (markerF w).1, .bool (markerF w).2]) [] := by
  refine fn_okC (ob0 := []) (rc := rc12) (rvs := rv12) Tryd.func12 rfl rcq12 rvq12 (show 1 ≤ _ by decide) ?_
  generalize hk : markerF w = q
  repeat ((conv => whnf); first | refine Cd.seq ?_ | refine Cd.cut ?_ | refine Cd.reg ?_ | refine Cd.block ?_ | refine Cd.cond ?_ | refine Cd.dreg ?_ | refine Cd.skip ?_ | refine Cd.ret ?_ | refine Cd.exit ?_ | refine Cd.loop ?_ | refine ⟨rfl, ?_⟩ | refine ⟨Nat.le_of_ble_eq_true rfl, ?_⟩ | refine ⟨.inl rfl, ?_⟩ | refine ⟨fun h => Bool.noConfusion h, ?_⟩ | refine .inl ⟨_, fun _ => ⟨purA rfl, (by first | exact okD15 w)⟩, .inl rfl, ?_⟩)
  conv => whnf
  refine ⟨fun h1 => ?_, fun h1 => ?_⟩ <;> try simp only [Bool.cond_true_left, Bool.cond_false_right, Bool.not_eq_true', Bool.not_eq_false', Bool.not_not] at h1
  · have h1 : (!checkW w || w.async == 0) = true := h1
    repeat ((conv => whnf); first | refine Cd.seq ?_ | refine Cd.cut ?_ | refine Cd.reg ?_ | refine Cd.block ?_ | refine Cd.cond ?_ | refine Cd.dreg ?_ | refine Cd.skip ?_ | refine Cd.ret ?_ | refine Cd.exit ?_ | refine Cd.loop ?_ | refine ⟨rfl, ?_⟩ | refine ⟨Nat.le_of_ble_eq_true rfl, ?_⟩ | refine ⟨.inl rfl, ?_⟩ | refine ⟨fun h => Bool.noConfusion h, ?_⟩)
    conv => whnf
    refine ⟨[], ?_, rfl, trivial, rfl, ?_⟩
    · exact trivial
    try subst hk
    simp only [markerF, h1, cond_true, cond_false, Bool.not_true, Bool.not_false]
    repeat' (first | exact trivial | rfl | exact .inl rfl | exact .inr rfl | exact id | exact (fun h => Bool.noConfusion h) | refine And.intro ?_ ?_)
  have h1 : (!checkW w || w.async == 0) = false := h1
  repeat ((conv => whnf); first | refine Cd.seq ?_ | refine Cd.cut ?_ | refine Cd.reg ?_ | refine Cd.block ?_ | refine Cd.cond ?_ | refine Cd.dreg ?_ | refine Cd.skip ?_ | refine Cd.ret ?_ | refine Cd.exit ?_ | refine Cd.loop ?_ | refine ⟨rfl, ?_⟩ | refine ⟨Nat.le_of_ble_eq_true rfl, ?_⟩ | refine ⟨.inl rfl, ?_⟩ | refine ⟨fun h => Bool.noConfusion h, ?_⟩)
  conv => whnf
  refine ⟨[], ?_, rfl, trivial, rfl, ?_⟩
  · exact trivial
  try subst hk
  simp only [markerF, h1, cond_true, cond_false, Bool.not_true, Bool.not_false]
  repeat' (first | exact trivial | rfl | exact .inl rfl | exact .inr rfl | exact id | exact (fun h => Bool.noConfusion h) | refine And.intro ?_ ?_)
end Go.Proofs.YteelckbeekgfiaaDoor
